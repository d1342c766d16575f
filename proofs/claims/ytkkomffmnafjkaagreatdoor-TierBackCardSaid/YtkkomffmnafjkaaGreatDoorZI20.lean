/- Contracts of multi.kindly and multi.Parts, where parts are told. Contracts .. -/
import Derived.Test.YtkkomffmnafjkaaGreatDoorZI15
import Derived.Test.YtkkomffmnafjkaaGreatDoorZI14
import Derived.Test.YtkkomffmnafjkaaGreatDoorZI19
import Derived.OwnWalk
import Derived.Test.YtkkomffmnafjkaaGreatDoorZB10
import Derived.Test.YtkkomffmnafjkaaGreatDoorZT1
import Derived.Test.YtkkomffmnafjkaaGreatDoorZM1
import Derived.Deep.RegionHeld3
import Derived.Test.YtkkomffmnafjkaaGreatDoorZI5
import Derived.BigQuiet
import Derived.Test.YtkkomffmnafjkaaGreatDoorZD1
import Derived.IntWalk
import Derived.Test.YtkkomffmnafjkaaGreatDoorZF0
import Derived.Laws.AppendOwnNone
set_option maxHeartbeats 16000000
set_option maxRecDepth 100000
set_option linter.all false
namespace Go.Proofs.YtkkomffmnafjkaaGreatDoor
open Go.RowKit
def kindOk(l:List UInt8):Bool:=decide (1≤l.length)&&decide (l.length≤100)&&w22 nCT l
theorem y132(l:List UInt8)(w:World)(hk:kindOk l=true):Calls Tryz.prog 197 #[.string ⟨l.toArray⟩] w fun e w'=>e=.returned (.bool true)∧Below w.heap.size w w':=by
 unfold kindOk at hk;simp only[Bool.and_eq_true,decide_eq_true_eq]at hk;obtain⟨⟨h1,h2⟩,h3⟩:=hk;have hsz:(⟨l.toArray⟩:ByteArray).size=l.length:=q19 l;have HF:∀W,Hid (Calls Tryz.prog 264 #[.agg #[.string ⟨#[67,111,110,116,101,110,116,45,84,121,112,101]⟩,.string ⟨l.toArray⟩]] W fun e w'=>e=.returned (.bool true)∧Below W.heap.size W w'):=fun W=>by have h:=j97 nCT l W (by decide) (by omega);rw[h3]at h;exact Lib.hid h
 have h1':(1:Int)≤(l.length:Int):=by omega
 have h2':(l.length:Int)≤100:=by omega
 clear h1 h2 h3;go_enter Tryz.func197,Tryz.ntmps197;go_wp2_with(go_at_call 264;refine(HF _).out.mono ?_;rintro e w1⟨rfl,hb1⟩);go_ret;exact⟨rfl,hb1⟩
def x62(k:Nat):List UInt8:=if k=0 then[]else[13,10]
def v92(P:List w17)(w:World)(e:Ending)(w':World):Prop:=∃A c k,k=P.length∧e=.returned (.tuple #[.slice A k c,.int .i64 0])∧OwnG 89 j18 3 w' w.heap.size A c P∧Below w.heap.size w w'
theorem k81{total:Int}{kd bd:List UInt8}{L:List (Int×Int)}{k:Nat}(hk:k<L.length):j26 total kd bd true (L.take (k+1))=j26 total kd bd true (L.take k)++[((if k=0 then[]else[13,10])++v181 L[k] total kd bd,(0,0)),([],L[k])]:=by
 rw[List.take_succ_eq_append_getElem hk,k68];congr 1;cases k with
  |zero=>rfl
  |succ j=>
   have:¬L.take (j+1)=[]:=by intro h;have:=congrArg List.length h;rw[List.length_take,List.length_nil]at this;omega
   rw[if_neg this];rfl
theorem j48{x:Int×Int}{total:Int}(h:q23 x total=true):okS x=true∧x.2≠4611686018427387904:=by unfold q23 at h;simp only[Bool.and_eq_true,Bool.not_eq_true',decide_eq_false_iff_not]at h;exact⟨h.1.1.1.1.1,h.1.1.1.2⟩
theorem w60{x:Int×Int}{total:Int}(h:q23 x total=true):(q21 x total).length≤70:=by have h0:=h;unfold q23 at h;simp only[Bool.and_eq_true,Bool.not_eq_true',decide_eq_true_eq]at h;have h1:=w21 (n:=x.1) (by have:=(j19 x).1 h.1.1.1.1.1;omega);have h2:=w21 (n:=x.2-1) (by have:=(j19 x).1 h.1.1.1.1.1;omega);have h3:=w21 (n:=total) (by omega);unfold q21;rw[if_pos h0];simp only[List.length_append,List.length_cons,List.length_nil,show vBytes.length=6 from rfl];split<;>simp<;>omega
theorem y145(A:Option Addr)(c:Nat)(L:List (Int×Int))(total:Int)(kd bd:List UInt8)(w:World)(h:Sp w A c L)(h0:0<L.length)(hl:L.length≤1000)(hc:∀x∈L,q23 x total=true)(hkd:kindOk kd=true)(hbd:w23 bd=true)(henv:Env w):Calls Tryz.prog 131 #[.slice A L.length c,.int .i64 total,.string ⟨kd.toArray⟩,.string ⟨bd.toArray⟩] w (v92 (x37 L total kd bd) w):=by
 have HH:=Lib.hid h;have HC:=Lib.hid hc;have HE:=Lib.hid henv;have HKD:=fun W=>Lib.hid (y132 kd W hkd);have hbl:bd.length≤70:=by unfold w23 at hbd;simp only[Bool.and_eq_true,decide_eq_true_eq]at hbd;exact hbd.1.2
 have hkl:kd.length≤100:=by unfold kindOk at hkd;simp only[Bool.and_eq_true,decide_eq_true_eq]at hkd;exact hkd.1.2
 have HBD:=fun W=>Lib.hid (j132 bd W (by omega));rw[hbd]at HBD;have HCT:∀(x:Int×Int)(W:World),x∈L→Below w.heap.size w W→Hid (Calls Tryz.prog 118 #[.agg #[.int .i64 x.1,.int .i64 x.2],.int .i64 total] W fun e w'=>e=.returned (.string ⟨(q21 x total).toArray⟩)∧Below W.heap.size W w'):=fun x W hx hW=>by have hr:=(j19 x).1 (j48 (hc x hx)).1;exact Lib.hid (w80 x.1 x.2 total W (HE.out.below hW).tab (by omega) (by omega))
 have hne:((L.length:Int)==0)=false:=by rw[beq_eq_false_iff_ne];omega
 have H0:=Lib.hid h0;clear h hc henv hkd hbd h0;go_enter Tryz.func131,Tryz.ntmps131;go_wp2_with fail;go_loopw[11,22](fun _ i wr=>∃k:Nat,k≤L.length∧i=.int .i64 (k:Int)∧Below w.heap.size w wr)(fun _ i _=>L.length-(intOf i).toNat);case atStart=>exact⟨0,Nat.zero_le _,rfl,Below.refl _ _⟩
 case round=>
  obtain⟨k,hk,rfl,hbw⟩:=hrel;have HB:=Lib.hid hbw;clear hbw;by_cases hlt:k<L.length;·
   obtain⟨b,off,e,hb,c1,c2⟩:=(HH.out.below HB.out).at_ hlt;have hmem:=List.getElem_mem hlt;have hcx:=HC.out _ hmem;have HX:=fun W hW=>HCT L[k] W hmem hW;have hie:(q21 L[k] total).isEmpty=false:=by cases hh:(q21 L[k] total).isEmpty with|false=>rfl|true=>have:=w86.1 (List.isEmpty_iff.1 hh);rw[hcx]at this;cases this
   obtain⟨⟨x1,x2⟩,hx⟩:∃x,L[k]=x:=⟨_,rfl⟩;rw[hx]at c1 c2 HX hie;obtain⟨ct,hct⟩:∃t,q21 (x1,x2) total=t:=⟨_,rfl⟩;rw[hct]at HX hie;simp only at c1 c2 HX;clear hmem hcx hx hct HCT;rw[e];go_wp2_with(go_at_call 118;refine(HX _ (q11 HB.out _)).out.mono ?_;rintro e w1⟨rfl,hb1⟩);go_roundw;case rel=>exact⟨k+1,by omega,by go_num,q12 hb1 (q11 HB.out _)⟩
   case measure=>simp[intOf];omega
  ·have hw1:IntKind.i64.wrap (2*(L.length:Int))=2*(L.length:Int):=IntWalk.i64_in _ (by omega);have hw2:IntKind.i64.wrap (2*(L.length:Int)+1)=2*(L.length:Int)+1:=IntWalk.i64_in _ (by omega);go_wp2_with(
    first
     |(go_at_call 197;refine(HKD _).out.mono ?_;rintro e w1⟨rfl,hb1⟩)
     |(go_at_call 198;refine(HBD _).out.mono ?_;rintro e w2⟨rfl,hw2'⟩;obtain rfl:w1=w2:=hw2'.symm)
     |(at_make;obtain⟨i0,hi,hz0,hz1,hz2⟩:=info_parts Tryz.partInfo;go_must(refine wpList_make_own w1 rfl (.const (.int .i64 0)) (.tmp 42) 72 rfl w.heap.size 89 i0 _ 3 Tryz.underlying72 hi hz0 hz1 .i64 .i64 (2*(L.length:Int)+1) (2*L.length+1) rfl rfl (by omega) (by rw[hz2];omega) (by simp only[maxLen];omega) (q12 hb1 HB.out).size ?_;intro w3 hown3 hg3);have HO3:Hid (OwnG 89 j18 3 w3 w.heap.size (some ⟨w1.heap.size,0,none⟩) (2*L.length+1) []):=hown3;have HB3:Hid (Below w.heap.size w w3):=(q12 hb1 HB.out).grown hg3 (q12 hb1 HB.out).size (fun k hk=>by cases hk);clear hown3 hg3 hi hz0 hz1 hz2 hb1));clear hne hw1 hw2 HKD HBD;go_loopw[12,13,15,16,46](fun out ah _ _ i wr=>∃(k:Nat)(A':Option Addr)(c' m:Nat),k≤L.length∧i=.int .i64 (k:Int)∧m=(j26 total kd bd true (L.take k)).length∧out=.slice A' m c'∧OwnG 89 j18 3 wr w.heap.size A' c' (j26 total kd bd true (L.take k))∧ah=.string ⟨(x62 k).toArray⟩∧Below w.heap.size w wr)(fun _ _ _ _ i _=>L.length-(intOf i).toNat);case atStart=>exact⟨0,_,_,0,Nat.zero_le _,rfl,rfl,rfl,HO3.out,rfl,HB3.out⟩
   case round=>
    clear HO3 HB3 HB hk;obtain⟨k,A',c',m,hk,rfl,hm,rfl,hown,rfl,hbw⟩:=hrel;have HB:=Lib.hid hbw;have HO:=Lib.hid hown;have HM:=Lib.hid hm;have hm2:m≤2000:=by rw[hm,q56,List.length_take];omega
    clear hbw hown hm;by_cases hlt:k<L.length;·
     obtain⟨b,off,e,hb,c1,c2⟩:=(HH.out.below HB.out).at_ hlt;have hmem:=List.getElem_mem hlt;have HX:=fun W hW=>HCT L[k] W hmem hW;have hctl:=w60 (HC.out _ hmem);have HST:=Lib.hid (k81 (total:=total) (kd:=kd) (bd:=bd) hlt);have HA2:Hid (x62 (k+1)=[13,10]):=rfl;have hal:(x62 k).length≤2:=by unfold x62;split<;>decide
     have HAE:Hid ((if k=0 then[]else[13,10]:List UInt8)=x62 k):=rfl;obtain⟨P,hP⟩:∃P,j26 total kd bd true (L.take k)=P:=⟨_,rfl⟩;rw[hP]at HO HM HST;obtain⟨⟨x1,x2⟩,hx⟩:∃x,L[k]=x:=⟨_,rfl⟩;rw[hx]at c1 c2 HX hctl HST;rw[HAE.out]at HST;obtain⟨ct,hct⟩:∃t,q21 (x1,x2) total=t:=⟨_,rfl⟩;have HHT:Hid (v181 (x1,x2) total kd bd=[45,45]++bd++[13,10]++([67,111,110,116,101,110,116,45,84,121,112,101,58,32])++kd++[13,10]++([67,111,110,116,101,110,116,45,82,97,110,103,101,58,32])++ct++[13,10]++[13,10]):=by simp only[Hid];rw[←hct];rfl
     rw[hct]at HX hctl;simp only at c1 c2 HX;obtain⟨t0,ht0⟩:∃t,x62 k=t:=⟨_,rfl⟩;rw[ht0]at HST hal⊢;obtain⟨t1,K1⟩:∃t,Hid (t=t0++[45,45]):=⟨_,Lib.hid rfl⟩;have N1:Hid (t1.length≤4):=by simp only[Hid];rw[K1.out,List.length_append];have:=hal;simp only[List.length_cons,List.length_nil];omega
     have hc1:∀W,(Op.stringOp .add ⟨t0.toArray⟩ ⟨([45,45]:List UInt8).toArray⟩).run Tryz.prog W=.ok (.string ⟨t1.toArray⟩) W:=by rw[K1.out];exact catE (by have:=hal;simp only[List.length_cons,List.length_nil];omega)
     obtain⟨t2,K2⟩:∃t,Hid (t=t1++bd):=⟨_,Lib.hid rfl⟩;have N2:Hid (t2.length≤74):=by simp only[Hid];rw[K2.out,List.length_append];have:=N1.out;omega
     have hc2:∀W,(Op.stringOp .add ⟨t1.toArray⟩ ⟨(bd:List UInt8).toArray⟩).run Tryz.prog W=.ok (.string ⟨t2.toArray⟩) W:=by rw[K2.out];exact catE (by have:=N1.out;omega)
     obtain⟨t3,K3⟩:∃t,Hid (t=t2++[13,10]):=⟨_,Lib.hid rfl⟩;have N3:Hid (t3.length≤76):=by simp only[Hid];rw[K3.out,List.length_append];have:=N2.out;simp only[List.length_cons,List.length_nil];omega
     have hc3:∀W,(Op.stringOp .add ⟨t2.toArray⟩ ⟨([13,10]:List UInt8).toArray⟩).run Tryz.prog W=.ok (.string ⟨t3.toArray⟩) W:=by rw[K3.out];exact catE (by have:=N2.out;simp only[List.length_cons,List.length_nil];omega)
     obtain⟨t4,K4⟩:∃t,Hid (t=t3++[67,111,110,116,101,110,116,45,84,121,112,101,58,32]):=⟨_,Lib.hid rfl⟩;have N4:Hid (t4.length≤90):=by simp only[Hid];rw[K4.out,List.length_append];have:=N3.out;simp only[List.length_cons,List.length_nil];omega
     have hc4:∀W,(Op.stringOp .add ⟨t3.toArray⟩ ⟨([67,111,110,116,101,110,116,45,84,121,112,101,58,32]:List UInt8).toArray⟩).run Tryz.prog W=.ok (.string ⟨t4.toArray⟩) W:=by rw[K4.out];exact catE (by have:=N3.out;simp only[List.length_cons,List.length_nil];omega)
     obtain⟨t5,K5⟩:∃t,Hid (t=t4++kd):=⟨_,Lib.hid rfl⟩;have N5:Hid (t5.length≤190):=by simp only[Hid];rw[K5.out,List.length_append];have:=N4.out;omega
     have hc5:∀W,(Op.stringOp .add ⟨t4.toArray⟩ ⟨(kd:List UInt8).toArray⟩).run Tryz.prog W=.ok (.string ⟨t5.toArray⟩) W:=by rw[K5.out];exact catE (by have:=N4.out;omega)
     obtain⟨t6,K6⟩:∃t,Hid (t=t5++[13,10]):=⟨_,Lib.hid rfl⟩;have N6:Hid (t6.length≤192):=by simp only[Hid];rw[K6.out,List.length_append];have:=N5.out;simp only[List.length_cons,List.length_nil];omega
     have hc6:∀W,(Op.stringOp .add ⟨t5.toArray⟩ ⟨([13,10]:List UInt8).toArray⟩).run Tryz.prog W=.ok (.string ⟨t6.toArray⟩) W:=by rw[K6.out];exact catE (by have:=N5.out;simp only[List.length_cons,List.length_nil];omega)
     obtain⟨t7,K7⟩:∃t,Hid (t=t6++[67,111,110,116,101,110,116,45,82,97,110,103,101,58,32]):=⟨_,Lib.hid rfl⟩;have N7:Hid (t7.length≤207):=by simp only[Hid];rw[K7.out,List.length_append];have:=N6.out;simp only[List.length_cons,List.length_nil];omega
     have hc7:∀W,(Op.stringOp .add ⟨t6.toArray⟩ ⟨([67,111,110,116,101,110,116,45,82,97,110,103,101,58,32]:List UInt8).toArray⟩).run Tryz.prog W=.ok (.string ⟨t7.toArray⟩) W:=by rw[K7.out];exact catE (by have:=N6.out;simp only[List.length_cons,List.length_nil];omega)
     obtain⟨t8,K8⟩:∃t,Hid (t=t7++ct):=⟨_,Lib.hid rfl⟩;have N8:Hid (t8.length≤277):=by simp only[Hid];rw[K8.out,List.length_append];have:=N7.out;omega
     have hc8:∀W,(Op.stringOp .add ⟨t7.toArray⟩ ⟨(ct:List UInt8).toArray⟩).run Tryz.prog W=.ok (.string ⟨t8.toArray⟩) W:=by rw[K8.out];exact catE (by have:=N7.out;omega)
     obtain⟨t9,K9⟩:∃t,Hid (t=t8++[13,10]):=⟨_,Lib.hid rfl⟩;have N9:Hid (t9.length≤279):=by simp only[Hid];rw[K9.out,List.length_append];have:=N8.out;simp only[List.length_cons,List.length_nil];omega
     have hc9:∀W,(Op.stringOp .add ⟨t8.toArray⟩ ⟨([13,10]:List UInt8).toArray⟩).run Tryz.prog W=.ok (.string ⟨t9.toArray⟩) W:=by rw[K9.out];exact catE (by have:=N8.out;simp only[List.length_cons,List.length_nil];omega)
     obtain⟨t10,K10⟩:∃t,Hid (t=t9++[13,10]):=⟨_,Lib.hid rfl⟩;have N10:Hid (t10.length≤281):=by simp only[Hid];rw[K10.out,List.length_append];have:=N9.out;simp only[List.length_cons,List.length_nil];omega
     have hc10:∀W,(Op.stringOp .add ⟨t9.toArray⟩ ⟨([13,10]:List UInt8).toArray⟩).run Tryz.prog W=.ok (.string ⟨t10.toArray⟩) W:=by rw[K10.out];exact catE (by have:=N9.out;simp only[List.length_cons,List.length_nil];omega)
     have HT:Hid (t0++v181 (x1,x2) total kd bd=t10):=by simp only[Hid];rw[HHT.out,K10.out,K9.out,K8.out,K7.out,K6.out,K5.out,K4.out,K3.out,K2.out,K1.out];simp only[List.append_assoc]
     rw[HT.out]at HST;clear K1 N1 K2 N2 K3 N3 K4 N4 K5 N5 K6 N6 K7 N7 K8 N8 K9 N9 K10 N10 HHT HT hmem hx hct ht0 hal hctl hP HCT HAE;rw[e];go_wp2_with(
      first
       |(at_builtin;refine x23 (w0:=w) elemPt rfl (.tmp 66) (.tmp 71) rfl A' c' m P HM.out _ _ rfl (HO.out.below (q12 hb4 (q11 (Below.refl _ _) _))) [(t10,(0,0)),([],(x1,x2))] 2 rfl rfl rfl (Nat.zero_lt_succ 1) (m+2) rfl (by omega) (q12 hb4 (q11 HB.out _)) ?_;intro A5 c5 w5 hown5 hbw5 hg5;clear hg5)
       |(go_at_call 118;refine(HX _ (q11 HB.out _)).out.mono ?_;rintro e w4⟨rfl,hb4⟩;have q1:=x16 hb4 (k31 _ _ _ _);have q2:=x16 hb4 (w31 _ _ _ _)));go_roundw;case rel=>exact⟨k+1,A5,c5,m+2,by omega,by go_num,by rw[HST.out,List.length_append,HM.out];rfl,rfl,by rw[HST.out];exact hown5,by rw[HA2.out],hbw5⟩
     case measure=>simp[intOf];omega
    ·have hke:k=L.length:=by omega
     rw[hke,List.take_length]at HM HO;obtain⟨P,hP⟩:∃P,j26 total kd bd true L=P:=⟨_,rfl⟩;have HPL:Hid (x37 L total kd bd=P++[(endT bd,(0,0))]):=by simp only[Hid];rw[←hP];rfl
     rw[hP]at HM HO;have hc1:=catE (a:=[13,10,45,45]) (b:=bd) (by simp only[List.length_cons,List.length_nil];omega);have hc2:=catE (a:=[13,10,45,45]++bd) (b:=[45,45]) (by simp only[List.length_append,List.length_cons,List.length_nil];omega);have hc3:=catE (a:=[13,10,45,45]++bd++[45,45]) (b:=[13,10]) (by simp only[List.length_append,List.length_cons,List.length_nil];omega);have HET:Hid (endT bd=[13,10,45,45]++bd++[45,45]++[13,10]):=by simp only[Hid];unfold endT;simp
     generalize[13,10,45,45]++bd++[45,45]++[13,10]=t3 at hc3 HET;generalize[13,10,45,45]++bd++[45,45]=t2 at hc2 hc3;generalize[13,10,45,45]++bd=t1 at hc1 hc2;rw[HET.out]at HPL;clear hP HET HCT hke;go_wp2_with(
      first
       |(at_builtin;refine x23 (w0:=w) elemPt rfl (.tmp 74) (.tmp 80) rfl A' c' m P HM.out _ _ rfl HO.out [(t3,(0,0))] 1 rfl rfl rfl Nat.zero_lt_one (m+1) rfl (by omega) HB.out ?_;intro A5 c5 w5 hown5 hbw5 hg5;clear hg5));refine bodyPost_ret (by simp[results,Tryz.results131,go_sem];try rfl) rfl ?_;rw[HPL.out];exact⟨A5,c5,m+1,by rw[List.length_append,HM.out];rfl,rfl,hown5,hbw5⟩
theorem j120(f t:Int)(w:World)(h:okS (f,t)=true)(ho:t≠4611686018427387904):Calls Tryz.prog 199 #[.agg #[.int .i64 f,.int .i64 t]] w fun e w'=>e=.returned (.int .i64 (t-f))∧Below w.heap.size w w':=by
 have HR:=fun W=>Lib.hid (q45 f t W);rw[h]at HR;obtain⟨r1,r2,r3⟩:=(j19 (f,t)).1 h;simp only at r1 r2 r3;have hw:IntKind.i64.wrap (t-f)=t-f:=IntWalk.i64_in _ (by omega);have hb:(t==4611686018427387904)=false:=by rw[beq_eq_false_iff_ne];exact ho
 clear h ho r1 r2 r3;go_enter Tryz.func199,Tryz.ntmps199;go_wp2_with(first|(go_at_call 64;refine(HR _).out.mono ?_;rintro e w1⟨rfl,rfl⟩)|go_in);go_ret;exact⟨rfl,by(repeat(first|exact Below.refl _ _|refine q15 ?_ _|refine x15 ?_|refine q11 ?_ _|refine w14 ?_ (by simp) _))⟩
theorem k92{n:Int}{P:List w17}{k:Nat}(hk:k<P.length)(h:P[k].1≠[]):w29 n (P.drop k)=w29 (n+(P[k].1.length:Int)) (P.drop (k+1)):=by rw[List.drop_eq_getElem_cons hk];obtain⟨⟨t,x⟩,hx⟩:∃p,P[k]=p:=⟨_,rfl⟩;rw[hx]at h⊢;rw[w29,if_pos h]
theorem z101{n:Int}{P:List w17}{k:Nat}(hk:k<P.length)(h:P[k].1=[])(h2:okS P[k].2=false∨P[k].2.2=4611686018427387904):w29 n (P.drop k)=-1:=by rw[List.drop_eq_getElem_cons hk];obtain⟨⟨t,x⟩,hx⟩:∃p,P[k]=p:=⟨_,rfl⟩;rw[hx]at h h2⊢;rw[w29,if_neg (by simp[show t=[]from h]),if_pos h2]
theorem x92{n:Int}{P:List w17}{k:Nat}(hk:k<P.length)(h:P[k].1=[])(h2:¬(okS P[k].2=false∨P[k].2.2=4611686018427387904)):w29 n (P.drop k)=w29 (n+(P[k].2.2-P[k].2.1)) (P.drop (k+1)):=by rw[List.drop_eq_getElem_cons hk];obtain⟨⟨t,x⟩,hx⟩:∃p,P[k]=p:=⟨_,rfl⟩;rw[hx]at h h2⊢;rw[w29,if_neg (by simp[show t=[]from h]),if_neg h2]
def LowP(P:List w17):Prop:=∀p∈P,p.1.length≤1000000∧(okS p.2=true→p.2.2≠4611686018427387904→p.2.2≤1099511627776)
theorem v110(A:Option Addr)(c n:Nat)(P:List w17)(w:World)(hn:n=P.length)(h:SpG j18 3 w A c P)(hl:P.length≤3000)(hlow:LowP P):Calls Tryz.prog 132 #[.slice A n c] w fun e w'=>e=.returned (.int .i64 (z181 P))∧Below w.heap.size w w':=by
 subst hn;have HH:=Lib.hid h;have HL:=Lib.hid hlow;clear h hlow;go_enter Tryz.func132,Tryz.ntmps132;go_wp2_with fail;go_loopw[3,5,8,17,26](fun s _ i _ _ wr=>∃(k:Nat)(n:Int),k≤P.length∧i=.int .i64 (k:Int)∧s=.int .i64 n∧0≤n∧n≤k*1099512627776∧w29 n (P.drop k)=z181 P∧Below w.heap.size w wr)(fun _ _ i _ _ _=>P.length-(intOf i).toNat);case atStart=>exact⟨0,0,Nat.zero_le _,rfl,rfl,Int.le_refl _,by omega,rfl,Below.refl _ _⟩
 case round=>
  obtain⟨k,n,hk,rfl,rfl,hn0,hn1,hs,hbw⟩:=hrel;have HB:=Lib.hid hbw;have HS:=Lib.hid hs;clear hbw hs;by_cases hlt:k<P.length;·
   obtain⟨b,off,e,hb,hc⟩:=(HH.out.below HB.out).at' k hlt;have c0:=hc 0 _ rfl;have c1:=hc 1 _ rfl;have c2:=hc 2 _ rfl;simp only[Nat.add_zero]at c0;have hp:=HL.out _ (List.getElem_mem hlt);have F1:Hid (P[k].1≠[]→w29 n (P.drop k)=w29 (n+(P[k].1.length:Int)) (P.drop (k+1))):=k92 hlt;have F2:Hid (P[k].1=[]→(okS P[k].2=false∨P[k].2.2=4611686018427387904)→w29 n (P.drop k)=-1):=z101 hlt;have F3:Hid (P[k].1=[]→¬(okS P[k].2=false∨P[k].2.2=4611686018427387904)→w29 n (P.drop k)=w29 (n+(P[k].2.2-P[k].2.1)) (P.drop (k+1))):=x92 hlt;obtain⟨⟨t,x1,x2⟩,hx⟩:∃p,P[k]=p:=⟨_,rfl⟩;rw[hx]at c0 c1 c2 hp F1 F2 F3;simp only at c0 c1 c2 hp F1 F2 F3;have hsz:(⟨t.toArray⟩:ByteArray).size=t.length:=q19 t;have HR:=fun W=>Lib.hid (q45 x1 x2 W);clear hx hc;rw[e];cases hte:t.isEmpty with
    |false=>
     have hne:t≠[]:=by intro hh;rw[hh]at hte;simp at hte
     have HF:=Lib.hid ((F1.out hne).symm.trans HS.out);have hw:IntKind.i64.wrap (n+(t.length:Int))=n+(t.length:Int):=IntWalk.i64_in _ (by omega);have hk2:(k:Int)≤3000:=by omega
     have hn2:n+(t.length:Int)≤(k+1:Nat)*1099512627776:=by omega
     clear F1 F2 F3 hne;go_wp2_with fail;go_roundw;case rel=>exact⟨k+1,n+(t.length:Int),by omega,by go_num,rfl,by omega,hn2,HF.out,q11 HB.out _⟩
     case measure=>simp[intOf];omega
    |true=>
     have hte':t=[]:=List.isEmpty_iff.1 hte;cases hok:okS (x1,x2)with
      |false=>have HF:Hid (z181 P=-1):=HS.out.symm.trans (F2.out hte' (.inl hok));rw[hok]at HR;clear F1 F2 F3 hte';go_wp2_with(go_at_call 64;refine(HR _).out.mono ?_;rintro e w1⟨rfl,rfl⟩);go_ret;exact⟨by rw[HF.out];rfl,q11 (q11 HB.out _) _⟩
      |true=>
       rw[hok]at HR;by_cases ho:x2=4611686018427387904;·
        have HF:Hid (z181 P=-1):=HS.out.symm.trans (F2.out hte' (.inr ho));have hob:(x2==4611686018427387904)=true:=by rw[beq_iff_eq];exact ho
        subst ho;clear F1 F2 F3 hte';go_wp2_with(go_at_call 64;refine(HR _).out.mono ?_;rintro e w1⟨rfl,rfl⟩);go_ret;exact⟨by rw[HF.out];rfl,q11 (q11 HB.out _) _⟩
       ·have HF:=Lib.hid ((F3.out hte' (by rw[hok];rintro(h|h)<;>first|exact ho h|cases h)).symm.trans HS.out);have hob:(x2==4611686018427387904)=false:=by rw[beq_eq_false_iff_ne];exact ho
        obtain⟨r1,r2,r3⟩:=(j19 (x1,x2)).1 hok;have hx2:=hp.2 hok ho;simp only at r1 r2 r3 hx2;have hk2:(k:Int)≤3000:=by omega
        have hw:IntKind.i64.wrap (n+(x2-x1))=n+(x2-x1):=IntWalk.i64_in _ (by omega);have hn2:n+(x2-x1)≤(k+1:Nat)*1099512627776:=by omega
        have HLN:=fun W=>Lib.hid (j120 x1 x2 W hok ho);have hn3:0≤n+(x2-x1):=by omega
        clear F1 F2 F3 hte' ho hok r1 r2 r3 hx2 hp hn0 hn1;go_wp2_with(first|(go_at_call 64;refine(HR _).out.mono ?_;rintro e w1⟨rfl,rfl⟩;have q0:=j16 (o':=.cells #[.int .i64 x1,.int .i64 x2] 59) (j17 (w:=wr) (o:=.cells #[.string ⟨t.toArray⟩,.int .i64 x1,.int .i64 x2] 89) rfl);have q1:=bc 1 q0 rfl;have q2:=bc 2 q0 rfl;clear q0)|(go_at_call 199;refine(HLN _).out.mono ?_;rintro e w2⟨rfl,hb2⟩));go_roundw;case rel=>exact⟨k+1,n+(x2-x1),by omega,by go_num,rfl,hn3,hn2,HF.out,q12 hb2 (q11 (q11 HB.out _) _)⟩
        case measure=>simp[intOf];omega
  ·have hke:k=P.length:=by omega
   have HF:Hid (z181 P=n):=by have:=HS.out;rw[hke,List.drop_length]at this;exact this.symm
   clear HS hke;go_wp2_with fail;go_ret;exact⟨by rw[HF.out];rfl,HB.out⟩
theorem j72{g n:Int}{L:List (Int×Int)}{O:List ((Int×Int)×Nat)}(hL:∀x∈L,0≤x.1∧x.1<x.2∧x.2≤n)(h:Folded g L O):∀s∈O.map Prod.fst,0≤s.1∧s.1<s.2∧s.2≤n:=by intro s hs;obtain⟨o,ho,rfl⟩:=List.mem_map.1 hs;obtain⟨x,hx,_,e1⟩:=h.toFolds.lo o ho;obtain⟨y,hy,_,e2⟩:=h.toFolds.hi o ho;have h1:=hL x hx;have h2:=hL y hy;have h3:=Folds.wide (fun x hx=>(hL x hx).2.1) h.toFolds ho;omega
theorem w132{g:Int}{L:List (Int×Int)}{O:List ((Int×Int)×Nat)}(h:Folded g L O):O.map Prod.fst=[]↔L=[]:=by
 constructor;·
  intro hO;cases L with
   |nil=>rfl
   |cons x r=>obtain⟨o,ho,_⟩:=h.toFolds.some_ (x:=x) (by simp);have:=List.mem_map_of_mem (f:=Prod.fst) ho;rw[hO]at this;simp at this
 ·intro hL;have:=h.few;rw[hL]at this;have h0:O=[]:=List.eq_nil_of_length_eq_zero (by simpa using this);rw[h0];rfl
theorem q127{m:MetaL}(hok:MetaOk m){s:Int×Int}(h:0≤s.1∧s.1<s.2∧s.2≤m.hv):q23 s m.len=true:=by
 have h1:=hok.hv;have h2:=hok.ln;have h3:=hok.eq;refine q49 (f:=s.1) (t:=s.2) ((j19 s).2 ⟨by omega,by omega,by omega⟩) (by omega) (by omega) (by omega) (by omega) ?_;rcases h3 with h3|h3;·exact .inl h3
 ·right;omega
theorem w145{x:Int×Int}{total:Int}{kd bd:List UInt8}(h:q23 x total=true)(h1:kd.length≤100)(h2:bd.length≤70):(v181 x total kd bd).length≤400:=by have:=w60 h;unfold v181;simp only[List.length_append,List.length_cons,List.length_nil,show nCT.length=12 from rfl,show nCR.length=13 from rfl];omega
theorem lowF{total:Int}{kd bd:List UInt8}(h1:kd.length≤100)(h2:bd.length≤70):∀(f:Bool)(S:List (Int×Int)),(∀s∈S,q23 s total=true∧s.2≤1099511627776)→LowP (j26 total kd bd f S)
 |_,[],_=>by intro p hp;simp[j26]at hp
 |f,s::r,h=>by
  have h0:=h s (by simp);have ih:=lowF h1 h2 false r fun x hx=>h x (by simp[hx]);have hl:=w145 h0.1 h1 h2;intro p hp;rw[j26]at hp;rcases List.mem_cons.1 hp with rfl|hp;·refine⟨?_,fun _ _=>show(0:Int)≤1099511627776 by decide⟩;rw[List.length_append];split<;>simp only[List.length_cons,List.length_nil]<;>omega
  ·rcases List.mem_cons.1 hp with rfl|hp;·exact⟨by simp,fun _ _=>h0.2⟩
   ·exact ih p hp
theorem lowL{total:Int}{kd bd:List UInt8}(h1:kd.length≤100)(h2:bd.length≤70){S:List (Int×Int)}(h:∀s∈S,q23 s total=true∧s.2≤1099511627776):LowP (x37 S total kd bd):=by
 intro p hp;unfold x37 at hp;rcases List.mem_append.1 hp with hp|hp;·exact lowF h1 h2 true S h p hp
 ·rw[List.mem_singleton.1 hp];refine⟨?_,fun _ _=>show(0:Int)≤1099511627776 by decide⟩;unfold endT;simp only[List.length_append,List.length_cons,List.length_nil];omega
theorem j127:kindOk [97,112,112,108,105,99,97,116,105,111,110,47,111,99,116,101,116,45,115,116,114,101,97,109]=true:=by decide+kernel
theorem x65(S:List (Int×Int))(total:Int)(kd bd:List UInt8):(x37 S total kd bd).length=2*S.length+1:=by unfold x37;rw[List.length_append,q56];rfl
theorem k72{w w':World}{b i:Nat}(h:w'.heap[b]?=w.heap[b]?):w'.cell? ⟨b,i,none⟩=w.cell? ⟨b,i,none⟩:=by unfold World.cell?;simp only[h]
theorem SpG.set_ne{α:Type}{en:α→List Value}{n:Nat}{w:World}{A:Option Addr}{c:Nat}{L:List α}{p:Addr}{v:Value}(h:SpG en n w A c L)(hne:∀a,A=some a→a.block≠p.block):SpG en n (w.setCell p v) A c L:=⟨h.le,h.nil_,fun k hk=>by obtain⟨b,off,e,hl,h1⟩:=h.at' k hk;have hn:=hne _ e;exact⟨b,off,e,by simpa[World.setCell]using hl,fun j u hj=>(k72 (Below.heap_setCell w p v b hn)).trans (h1 j u hj)⟩⟩
theorem k36{w:World}{a b:Nat}{cs cs':Array Value}{T T':TypeId}{f f':Nat×Nat}(h:w.heap[a]?=some (.cells cs T f))(h':w.heap[b]?=some (.cells cs' T' f'))(hT:T≠T'):a≠b:=by rintro rfl;rw[h]at h';injection h' with h';injection h' with _ h2;exact hT h2
theorem SpG.built_at{α:Type}{en:α→List Value}{n:Nat}(hl:∀x,(en x).length=n)(w:World)(b:Nat)(hb:b=w.heap.size)(L:List α)(cs:Array Value)(hcs:cs.toList=w180 en L)(T:TypeId):SpG en n (w.alloc (.cells cs T)) (some ⟨b,0,none⟩) L.length L:=by subst hb;exact SpG.built hl w L cs hcs T
structure SpT{α:Type}(T:TypeId)(en:α→List Value)(n:Nat)(w:World)(A:Option Addr)(c:Nat)(L:List α):Prop where
 sp:SpG en n w A c L
 ty:∀a,A=some a→∃cs f,w.heap[a.block]?=some (.cells cs T f)
section
variable{α:Type}{T:TypeId}{en:α→List Value}{n:Nat}{w w':World}{base:Nat}{A:Option Addr}{c:Nat}{L:List α}
theorem SpT.nil(T:TypeId)(w:World):SpT T en n w none 0 []:=⟨SpG.nil w,fun a ha=>by cases ha⟩
theorem SpT.below(h:SpT T en n w A c L)(hb:Below w.heap.size w w'):SpT T en n w' A c L:=⟨h.sp.below hb,fun a ha=>by obtain⟨cs,f,hc⟩:=h.ty a ha;exact⟨cs,f,j3 hb hc⟩⟩
theorem SpT.set_ty{r i:Nat}{cs:Array Value}{T':TypeId}{f:Nat×Nat}(h:SpT T en n w A c L)(hr:w.heap[r]?=some (.cells cs T' f))(hT:T≠T')(v:Value):SpT T en n (w.setCell ⟨r,i,none⟩ v) A c L:=by
 have hne:∀a,A=some a→a.block≠r:=fun a ha=>by obtain⟨cs',f',hc⟩:=h.ty a ha;exact k36 hc hr hT
 refine⟨h.sp.set_ne hne,fun a ha=>?_⟩;obtain⟨cs',f',hc⟩:=h.ty a ha;exact⟨cs',f',z11 (hne a ha) hc⟩
theorem SpT.built_at(hl:∀x,(en x).length=n)(w:World)(b:Nat)(hb:b=w.heap.size)(L:List α)(cs:Array Value)(hcs:cs.toList=w180 en L)(T:TypeId):SpT T en n (w.alloc (.cells cs T)) (some ⟨b,0,none⟩) L.length L:=by refine⟨SpG.built_at hl w b hb L cs hcs T,fun a ha=>?_⟩;injection ha with ha;subst ha;exact⟨cs,(0,0),j17 hb⟩
theorem OwnG.spt(hl:∀x,(en x).length=n)(h:OwnG T en n w base A c L):SpT T en n w A c L:=by
 refine⟨h.spg hl,fun a ha=>?_⟩;rcases h.2 with⟨hv,_⟩|⟨g,cap,cur,hv,_,hg,_⟩;·injection hv with h1;rw[h1]at ha;cases ha
 ·injection hv with h1;rw[h1]at ha;injection ha with ha;subst ha;exact⟨cur,(0,0),hg⟩
end
structure ReqL where
 hd:Bool
 ob:ByteArray
 A:Option Addr
 c:Nat
 L:List (Int×Int)
 A1:Option Addr
 n1:Nat
 c1:Nat
 A2:Option Addr
 n2:Nat
 c2:Nat
 am:Bool
 an:Bool
 si:Int
 un:Int
 rt:ByteArray
 rw:Bool
def reqA(r:ReqL):Array Value:=#[.bool r.hd,.string r.ob,.slice r.A r.L.length r.c,.slice r.A1 r.n1 r.c1,.slice r.A2 r.n2 r.c2,.bool r.am,.bool r.an,.int .i64 r.si,.int .i64 r.un,.string r.rt,.bool r.rw]
def j39(a:AnsL)(w0:World)(e:Ending)(w':World):Prop:=∃A c k B d j,k=a.fs.length∧j=a.ps.length∧e=.returned (.agg #[.int .i64 a.st,.slice A k c,.slice B j d,.int .i64 a.sz])∧SpT 176 w18 2 w' A c a.fs∧SpT 89 j18 3 w' B d a.ps∧Below w0.heap.size w0 w'
def q44(m:MetaL)(R:List (Int×Int))(seed:Int)(w0:World)(e:Ending)(w':World):Prop:=∃O,Folded 0 R O∧j39 (j24 m (O.map Prod.fst) seed) w0 e w'
theorem k97(A:Option Addr)(n m c:Nat):(Value.slice A n c).ownBlock=(Value.slice A m c).ownBlock:=by cases A<;>rfl
def Keep(w w':World)(B:Option Nat):Prop:=∀(k:Nat)(o:Obj),w.heap[k]?=some o→B≠some k→w'.heap[k]?=some o
theorem y53(m:MetaL):(x21 m).length≤10:=by
 unfold x21;simp only[List.length_append];repeat' split
 all_goals simp
theorem single{α:Type}{S:List α}(h:S.length=1):∃s,S=[s]:=by match S,h with|[s],_=>exact⟨s,rfl⟩
theorem y81{m:MetaL}{S:List (Int×Int)}{seed:Int}(h:2≤S.length):j24 m S seed=⟨206,x21 m++[(nCT,vMulti++q29 seed)],x37 S m.len v90 (q29 seed),z181 (x37 S m.len v90 (q29 seed))⟩:=by match S,h with|s::t::r,_=>rfl
theorem Own.row{w:World}{base:Nat}{A:Option Addr}{c:Nat}{L:List (Int×Int)}(h:Own w base A c L)(h0:0<L.length):∃g cur,A=some ⟨g,0,none⟩∧w.heap[g]?=some (.cells cur 59 (0,0)):=by
 rcases h.2 with⟨_,hn⟩|⟨g,cap,cur,hv,_,hg,_⟩;·omega
 ·injection hv with h1;exact⟨g,cur,h1,hg⟩
theorem k110{w w':World}{base g:Nat}{c:Nat}{L:List (Int×Int)}(h:Own w base (some ⟨g,0,none⟩) c L)(he:w'.heap[g]?=w.heap[g]?):Own w' base (some ⟨g,0,none⟩) c L:=by
 refine⟨h.1,?_⟩;rcases h.2 with h2|⟨g',cap,cur,h1,h2,h3,h4⟩;·exact .inl h2
 ·have h1c:=h1;injection h1 with h1';injection h1' with h1';injection h1' with h1';subst h1';exact .inr ⟨g,cap,cur,h1c,h2,he.trans h3,h4⟩
theorem z133(r:ReqL)(m:MetaL)(KA:Option Addr)(kc:Nat)(FA:Option Addr)(fc fk:Nat)(seed:Int)(w0 w:World)(hsp:Sp w r.A r.c r.L)(hR:allR r.L=true)(hl:r.L.length≤70)(hok:MetaOk m)(hfk:fk=(x21 m).length)(hown:OwnG 176 w18 2 w w0.heap.size FA fc (x21 m))(hb0:Below w0.heap.size w0 w)(henv:Env w0)(hseed:-9223372036854775808≤seed∧seed≤9223372036854775807):Calls Tryz.prog 73 #[.agg (reqA r),j25 m KA kc,.slice FA fk fc,.int .i64 seed] w (fun e w'=>q44 m (resL m.hv r.L) seed w0 e w'∧Keep w w' (Value.slice FA fk fc).ownBlock):=by
 have hhv:=hok.hv;have hin:=fun y hy=>y52 hhv.1 hR (y:=y) hy;have HCONT:∀O,Folded 0 (resL m.hv r.L) O→∀s∈O.map Prod.fst,q23 s m.len=true∧s.2≤1099511627776:=fun O hO s hs=>by have h:=j72 hin hO s hs;exact⟨q127 hok h,by omega⟩
 have hlen:(resL m.hv r.L).length≤70:=Nat.le_trans (w35 _ _) hl;have HRES:=fun W hW=>Lib.hid (k71 r.A r.c r.L m.hv W hW (by omega) hR hhv.1 (by omega));have HFOLD:=fun A' c' W(hW:Sp W A' c' (resL m.hv r.L))=>Lib.hid (k152 A' c' (resL m.hv r.L) 0 W hW (fun x hx=>by have:=hin x hx;omega) (by omega) (z142 (by omega)));have hNF:=y53 m;have HFOL:Hid (x21 m=x21 m):=rfl;obtain⟨hd,ob,A,c,L,A1,n1,c1,A2,n2,c2,am,an,si,un,rt,rw⟩:=r;obtain⟨R,hRe⟩:∃R,resL m.hv L=R:=⟨_,rfl⟩;simp only at hsp hR hl hin HCONT hlen HRES HFOLD⊢;rw[hRe]at hlen HCONT⊢;simp only[hRe]at HRES HFOLD hin;have HIN:=Lib.hid hin;have HPOST:Hid (∀e w',q44 m R seed w0 e w'→q44 m R seed w0 e w'):=fun e w' h=>h;obtain⟨FL,hFL⟩:∃FL,x21 m=FL:=⟨_,rfl⟩;have HFL:=Lib.hid hFL;rw[hFL]at hfk hown hNF;have HLN:=Lib.hid hok.eq;have HMOK:=Lib.hid hok;have HS:=Lib.hid hsp;have HE:=Lib.hid henv;have HF0:=Lib.hid hfk;clear HFOL hFL hsp henv hok hfk hRe hin;have hfk10:fk≤10:=by have:=HF0.out;omega
 have HFMT:∀(n:Int)(W:World),0≤n→n≤9223372036854775807→Below w0.heap.size w0 W→Hid (Calls Tryz.prog 125 #[.int .i64 n,.int .i64 10] W fun e w'=>e=.returned (.string ⟨(digN n).toArray⟩)∧Below W.heap.size W w'):=fun n W h0 h1 hW=>by have h:=w78 n (by omega) (by omega) W (q30 HE.out.tab hW);rw[q66 h0]at h;exact Lib.hid h
 obtain⟨tg,wk,mo,ln,hv,fr,wh,er,ks,tn,kp⟩:=m;unfold reqA j25;simp only at HCONT HLN HRES HFOLD⊢;have hhv0:=HMOK.out.hv;have hln0:=HMOK.out.ln;simp only at hhv0 hln0;go_enter Tryz.func73,Tryz.ntmps73;go_upto_region 2 with fail;obtain⟨W0,hW0⟩:∃W0,(((w.alloc (.cells #[.bool hd,.string ob,.slice A L.length c,.slice A1 n1 c1,.slice A2 n2 c2,.bool am,.bool an,.int .i64 si,.int .i64 un,.string rt,.bool rw] 29)).alloc (.cells #[.string ⟨tg.toArray⟩,.bool wk,.int .i64 mo,.int .i64 ln,.int .i64 hv,.int .i64 fr,.int .i64 wh,.int .i64 er,.slice KA ks.length kc,.string ⟨tn.toArray⟩,.bool kp] 45)).alloc (.cells #[.slice FA fk fc] 71)).alloc (.cells #[.int .i64 0,.slice none 0 0,.slice none 0 0,.int .i64 0] 74)=W0:=⟨_,rfl⟩;have HQ0:Hid (W0.heap[w.heap.size]?=some (.cells #[.bool hd,.string ob,.slice A L.length c,.slice A1 n1 c1,.slice A2 n2 c2,.bool am,.bool an,.int .i64 si,.int .i64 un,.string rt,.bool rw] 29 (0,0))):=by simp only[Hid];rw[←hW0];exact j16 (j16 (j16 (j17 rfl)))
 have HM0:Hid (W0.heap[w.heap.size+1]?=some (.cells #[.string ⟨tg.toArray⟩,.bool wk,.int .i64 mo,.int .i64 ln,.int .i64 hv,.int .i64 fr,.int .i64 wh,.int .i64 er,.slice KA ks.length kc,.string ⟨tn.toArray⟩,.bool kp] 45 (0,0))):=by simp only[Hid];rw[←hW0];exact j16 (j16 (j17 (by simp)))
 have HK0:Hid (W0.heap[w.heap.size+1+1]?=some (.cells #[.slice FA fk fc] 71 (0,0))):=by simp only[Hid];rw[←hW0];exact j16 (j17 (by simp))
 have HX0:Hid (W0.heap[w.heap.size+1+1+1]?=some (.cells #[.int .i64 0,.slice none 0 0,.slice none 0 0,.int .i64 0] 74 (0,0))):=by simp only[Hid];rw[←hW0];exact j17 (by simp)
 have HO0:Hid (OwnG 176 w18 2 W0 w0.heap.size FA fc FL):=by simp only[Hid];rw[←hW0];exact(((hown.alloc _).alloc _).alloc _).alloc _
 have HV0:Hid (Below w.heap.size w W0):=by simp only[Hid];rw[←hW0];(repeat(first|exact Below.refl _ _|refine q15 ?_ _|refine x15 ?_|refine q11 ?_ _|refine w14 ?_ (by simp) _))
 have HB0:Hid (Below w0.heap.size w0 W0):=q12 HV0.out hb0;have hz0:w0.heap.size≤w.heap.size:=hb0.size;rw[hW0];clear hW0 hown hb0;have q0:=bc 2 HQ0.out rfl;have q1:=bc 4 HM0.out rfl;go_upto_region 4 with(first|(go_at_call 129;refine(HFOLD _ _ _ HP1.out.sp).out.mono ?_;rintro e w2⟨O,hO,B2,d2,rfl,hP2,h2⟩;have HQ2:=Lib.hid (j3 h2 HQ1.out);have HM2:=Lib.hid (j3 h2 HM1.out);have HK2:=Lib.hid (j3 h2 HK1.out);have HX2:=Lib.hid (j3 h2 HX1.out);have HO2:=Lib.hid (HO1.out.below h2);have HV2:=Lib.hid (q12 h2 HV1.out);have HB2:=Lib.hid (q12 h2 HB1.out);have HP2:=Lib.hid hP2;clear h2 hP2 HQ1 HM1 HK1 HX1 HO1 HV1 HB1)|(go_at_call 127;refine(HRES _ (HS.out.below HV0.out)).out.mono ?_;rintro e w1⟨B1,d1,rfl,hP1,h1⟩;have HQ1:=Lib.hid (j3 h1 HQ0.out);have HM1:=Lib.hid (j3 h1 HM0.out);have HK1:=Lib.hid (j3 h1 HK0.out);have HX1:=Lib.hid (j3 h1 HX0.out);have HO1:=Lib.hid (HO0.out.below h1);have HV1:=Lib.hid (q12 h1 HV0.out);have HB1:=Lib.hid (q12 h1 HB0.out);have HP1:=Lib.hid hP1;clear h1 hP1 HQ0 HM0 HK0 HX0 HO0 HV0 HB0 q0 q1));have HC:=Lib.hid (HCONT O hO);have hnil:=w132 hO;have hfew:=hO.few;obtain⟨S,hS⟩:∃S,O.map Prod.fst=S:=⟨_,rfl⟩;have HSO:=Lib.hid hS;have hOl:O.length=S.length:=by rw[←hS,List.length_map]
 rw[hS]at HC hnil HP2;rw[hOl];have hSl:S.length≤70:=by rw[←hS,List.length_map];omega
 have HOF:=Lib.hid hO;have HSP:Hid (∀a:AnsL,j24 ⟨tg,wk,mo,ln,hv,fr,wh,er,ks,tn,kp⟩ S seed=a→∀e w',j39 a w0 e w'→q44 ⟨tg,wk,mo,ln,hv,fr,wh,er,ks,tn,kp⟩ R seed w0 e w'):=by intro a ha e w' h;exact⟨O,HOF.out,by rw[hS,ha];exact h⟩
 clear HCONT HRES HFOLD hO hS HIN hfew HS HPOST HSO hOl HOF hlen;have q1:=bc 3 HM2.out rfl;have q2:=bc 4 HM2.out rfl;have q3:=bc 0 HK2.out rfl;by_cases hS0:S.length=0;·
  have hSn:S=[]:=List.eq_nil_of_length_eq_zero hS0;have hRn:R.length=0:=by rw[hnil.1 hSn];rfl
  have HA:Hid (j24 ⟨tg,wk,mo,ln,hv,fr,wh,er,ks,tn,kp⟩ S seed=⟨416,FL++[(nCR,k90++digN hv)],[],0⟩):=by simp only[Hid];rw[hSn,←HFL.out];rfl
  have hrb:decide (0<R.length)=false:=by rw[hRn];rfl
  have hcs:=catE (a:=[98,121,116,101,115,32,42,47]) (b:=digN hv) (by have:=w21 (n:=hv) (by omega);simp only[List.length_cons,List.length_nil];omega);have HFV:=fun W hW=>HFMT hv W hhv0.1 (by omega) hW;have HSTAR:Hid (k90++digN hv=[98,121,116,101,115,32,42,47]++digN hv):=rfl;obtain⟨tx,htx⟩:∃t,[98,121,116,101,115,32,42,47]++digN hv=t:=⟨_,rfl⟩;rw[htx]at hcs HSTAR;obtain⟨dv,hdv⟩:∃t,digN hv=t:=⟨_,rfl⟩;rw[hdv]at hcs HSTAR;simp only[hdv]at HFV;rw[hdv,HSTAR.out]at HA;have hcase:((ln==-1)=true)∨((ln==-1)=false∧hv=ln):=by
   rcases HLN.out with e|e;·left;rw[beq_iff_eq];exact e
   ·by_cases e2:ln=-1;·left;rw[beq_iff_eq];exact e2
    ·right;exact⟨by rw[beq_eq_false_iff_ne];exact e2,e⟩
  clear htx hdv hnil hSn hRn HSTAR HFMT hSl;rcases hcase with hb1|⟨hb1,hb2⟩;rotate_left;subst hb2;rotate_left;all_goals
   go_wp2_with(first|(go_at_call_of 128(Value.string ⟨#[67,111,110,116,101,110,116,45,82,97,110,103,101]⟩);refine(k55 (w0:=w0) [67,111,110,116,101,110,116,45,82,97,110,103,101] tx HK3.out HF0.out HO3.out HB3.out (by omega) (by omega)).mono ?_;rintro e w4⟨rfl,A4,c4,k4,hk4,hb4,ho4,hl4,hf4⟩;have NT:=HO3.out;have HX4:=Lib.hid (hf4.block HX3.out (by omega) (NT.ne_ty HX3.out (by decide)));have HM4:=Lib.hid (hf4.block HM3.out (by omega) (NT.ne_ty HM3.out (by decide)));have x0:=bc 0 HX4.out rfl;have x1:=bc 1 HX4.out rfl;have x2:=bc 2 HX4.out rfl;have x3:=bc 3 HX4.out rfl;have xf0:=q13 (i:=0) HX4.out;have xf1:=q13 (i:=1) HX4.out;have xf2:=q13 (i:=2) HX4.out;have xf3:=q13 (i:=3) HX4.out;have xz:=q14 HX4.out;have y0:=bc 0 hb4 rfl)|(go_at_call 125;refine(HFV _ HB2.out).out.mono ?_;rintro e w3⟨rfl,h3⟩;have HQ3:=Lib.hid (j3 h3 HQ2.out);have HM3:=Lib.hid (j3 h3 HM2.out);have HK3:=Lib.hid (j3 h3 HK2.out);have HX3:=Lib.hid (j3 h3 HX2.out);have HO3:=Lib.hid (HO2.out.below h3);have HV3:=Lib.hid (q12 h3 HV2.out);have HB3:=Lib.hid (q12 h3 HB2.out);clear h3));refine bodyPost_ret (by simp[results,Tryz.results73,go_sem,x0,x1,x2,x3];try rfl) rfl ?_;have g0:=HX4.out;have g1:=j15 (i:=0) (v:=.int .i64 416) g0;have g2:=j15 (i:=1) (v:=.slice A4 (FL.length+1) c4) g1;have g3:=j15 (i:=2) (v:=.slice none 0 0) g2;have hz:w0.heap.size≤w.heap.size+1+1+1:=by omega
   exact⟨HSP.out _ HA.out _ _ ⟨A4,c4,FL.length+1,none,0,0,by rw[List.length_append];rfl,rfl,rfl,OwnG.spt elemFd.len ((((ho4.set_ty g0 (by decide) _).set_ty g1 (by decide) _).set_ty g2 (by decide) _).set_ty g3 (by decide) _),SpT.nil _ _,w14 (w14 (w14 (w14 hl4 hz _) hz _) hz _) hz _⟩,fun k o hk hB=>by
    have hlt:=q14 hk;have e8:k≠w.heap.size+1+1+1:=by omega
    have e9:k≠w.heap.size+1+1:=by omega
    have hB':(Value.slice FA FL.length fc).ownBlock≠some k:=by rw[k97 FA FL.length fk fc];exact hB
    exact z11 e8 (z11 e8 (z11 e8 (z11 e8 (hf4 k o ((HV3.out.block k hlt).trans hk) e9 hB'))))⟩
 have hrb:decide (0<R.length)=true:=by have:R≠[]:=fun h=>hS0 (by rw[hnil.2 h];rfl);exact decide_eq_true (List.length_pos_iff.2 this)
 clear hnil HFMT;obtain⟨g,cur,hg1,hg2⟩:=HP2.out.row (by omega);subst hg1;have HG2:=Lib.hid hg2;obtain⟨W3,hW3⟩:∃W3,w2.alloc (.cells #[.int .i64 206,.slice none 0 0,.slice none 0 0,.int .i64 0] 74)=W3:=⟨_,rfl⟩;have HN3:Hid (W3.heap[w2.heap.size]?=some (.cells #[.int .i64 206,.slice none 0 0,.slice none 0 0,.int .i64 0] 74 (0,0))):=by simp only[Hid];rw[←hW3];exact j17 rfl
 have HQ3:Hid (W3.heap[w.heap.size]?=some (.cells #[.bool hd,.string ob,.slice A L.length c,.slice A1 n1 c1,.slice A2 n2 c2,.bool am,.bool an,.int .i64 si,.int .i64 un,.string rt,.bool rw] 29 (0,0))):=by simp only[Hid];rw[←hW3];exact j16 HQ2.out
 have HM3:Hid (W3.heap[w.heap.size+1]?=some (.cells #[.string ⟨tg.toArray⟩,.bool wk,.int .i64 mo,.int .i64 ln,.int .i64 hv,.int .i64 fr,.int .i64 wh,.int .i64 er,.slice KA ks.length kc,.string ⟨tn.toArray⟩,.bool kp] 45 (0,0))):=by simp only[Hid];rw[←hW3];exact j16 HM2.out
 have HK3:Hid (W3.heap[w.heap.size+1+1]?=some (.cells #[.slice FA fk fc] 71 (0,0))):=by simp only[Hid];rw[←hW3];exact j16 HK2.out
 have HX3:Hid (W3.heap[w.heap.size+1+1+1]?=some (.cells #[.int .i64 0,.slice none 0 0,.slice none 0 0,.int .i64 0] 74 (0,0))):=by simp only[Hid];rw[←hW3];exact j16 HX2.out
 have HG3:Hid (W3.heap[g]?=some (.cells cur 59 (0,0))):=by simp only[Hid];rw[←hW3];exact j16 HG2.out
 have HO3:Hid (OwnG 176 w18 2 W3 w0.heap.size FA fc FL):=by simp only[Hid];rw[←hW3];exact HO2.out.alloc _
 have HV3:Hid (Below w.heap.size w W3):=by simp only[Hid];rw[←hW3];exact q11 HV2.out _
 have HB3:Hid (Below w0.heap.size w0 W3):=by simp only[Hid];rw[←hW3];exact q11 HB2.out _
 have HP3:Hid (Own W3 w1.heap.size (some ⟨g,0,none⟩) d2 S):=by simp only[Hid];rw[←hW3];exact HP2.out.alloc _
 obtain⟨n8,hn8⟩:∃n,w2.heap.size=n:=⟨_,rfl⟩;have hX8:=q14 HX2.out;have hG8:=q14 HG2.out;rw[hn8]at HN3 hX8 hG8;have hKG:w.heap.size+1+1≠g:=k36 HK2.out HG2.out (by decide);have hb13:w0.heap.size≤n8:=by omega
 have HW3:=Lib.hid hW3;have HN8:=Lib.hid hn8;clear hW3 hn8;clear hg2 HQ2 HM2 HK2 HX2 HG2 HO2 HV2 HB2 HP2 q1 q2 q3;have HCTN:∀(s:Int×Int)(W:World),s∈S→Below w0.heap.size w0 W→Hid (Calls Tryz.prog 118 #[.agg #[.int .i64 s.1,.int .i64 s.2],.int .i64 ln] W fun e w'=>e=.returned (.string ⟨(q21 s ln).toArray⟩)∧Below W.heap.size W w'):=fun s W hs hW=>by have h:=HC.out s hs;have hr:=(j19 s).1 (j48 h.1).1;exact Lib.hid (w80 s.1 s.2 ln W (HE.out.below hW).tab (by omega) (by omega))
 by_cases hS1:S.length=1;·
  obtain⟨⟨x1,x2⟩,rfl⟩:=single hS1;have HX:=fun W hW=>HCTN (x1,x2) W (by simp) hW;obtain⟨b,off,e,_,c1',c2'⟩:=HP3.out.sp.at_ (k:=0) (by simp);injection e with e;injection e with e1 e2;subst e1 e2;have hcc:=HC.out (x1,x2) (by simp);have hok2:=(j48 hcc.1);obtain⟨r1,r2,r3⟩:=(j19 (x1,x2)).1 hok2.1;have hx2:=hcc.2;have hne2:=hok2.2;simp only[List.getElem_cons_zero,Nat.zero_mul,Nat.zero_add]at c1' c2';simp only at HX r1 r2 r3 hx2 hne2;have hc1:cur[0]?=some (.int .i64 x1):=(Lib.cell_of_heap HG3.out 0).symm.trans c1';have hc2:cur[1]?=some (.int .i64 x2):=(Lib.cell_of_heap HG3.out 1).symm.trans c2';have HSZ:Hid (z181 [([],(x1,x2))]=x2-x1):=by simp only[Hid];unfold z181;rw[w29,if_neg (by simp),if_neg (by rw[hok2.1];rintro(h|h)<;>first|exact hne2 h|cases h),w29];omega
  have HA:Hid (j24 ⟨tg,wk,mo,ln,hv,fr,wh,er,ks,tn,kp⟩ [(x1,x2)] seed=⟨206,FL++[(nCR,q21 (x1,x2) ln)],[([],(x1,x2))],z181 [([],(x1,x2))]⟩):=by simp only[Hid];rw[HSZ.out,←HFL.out];rfl
  have HLOW:Hid (LowP [([],(x1,x2))]):=by intro p hp;rw[List.mem_singleton.1 hp];exact⟨by simp,fun _ _=>hx2⟩
  obtain⟨ct,hct⟩:∃t,q21 (x1,x2) ln=t:=⟨_,rfl⟩;rw[hct]at HA HX;have v1:W3.cell? ⟨g,0,none⟩=some (.int .i64 x1):=c1';have v2:W3.cell? ⟨g,1,none⟩=some (.int .i64 x2):=c2';have v3:=bc 3 HM3.out rfl;have v4:=bc 0 HK3.out rfl;clear hct hcc hok2 c1' c2' HC HP3 hne2;go_upto_region 12 with fail;rw[HW3.out];try rw[HN8.out]
  clear HW3 HN8;go_region_held3(fun w'=>w'.cell? ⟨g,0,none⟩=some (.int .i64 x1)∧w'.cell? ⟨g,1,none⟩=some (.int .i64 x2)∧w'.cell? ⟨w.heap.size+1,3,none⟩=some (.int .i64 ln))(first|exact⟨u1,u2,u3⟩|exact⟨z1,z2,z3⟩|exact⟨v1,v2,v3⟩|fail)(first|(go_at_call 128;refine(k55 (w0:=w0) [67,111,110,116,101,110,116,45,82,97,110,103,101] ct HK4.out HF0.out HO4.out HB4.out (by omega) (by omega)).mono ?_;rintro e w5⟨rfl,A5,c5,k5,hk5,hb5,ho5,hl5,hf5⟩;have NT:=HO4.out;have HX5:=Lib.hid (hf5.block HX4.out (by omega) (NT.ne_ty HX4.out (by decide)));have HN5:=Lib.hid (hf5.block HN4.out (by omega) (NT.ne_ty HN4.out (by decide)));have HG5:=Lib.hid (hf5.block HG4.out (Ne.symm hKG) (NT.ne_ty HG4.out (by decide)));have HM5:=Lib.hid (hf5.block HM4.out (by omega) (NT.ne_ty HM4.out (by decide)));have u1:=bc 0 HG5.out hc1;have u2:=bc 1 HG5.out hc2;have u3:=bc 3 HM5.out rfl)|(go_at_call 118;refine(HX _ (by first|exact HB3.out|exact x15 HB3.out|exact q15 HB3.out _)).out.mono ?_;rintro e w4⟨rfl,h4⟩;have HM4:=Lib.hid (j3 h4 HM3.out);have HK4:=Lib.hid (j3 h4 HK3.out);have HX4:=Lib.hid (j3 h4 HX3.out);have HN4:=Lib.hid (j3 h4 HN3.out);have HG4:=Lib.hid (j3 h4 HG3.out);have HO4:Hid (OwnG 176 w18 2 w4 w0.heap.size FA fc FL):=(OwnG.below (by first|exact HO3.out|exact HO3.out.drew|exact HO3.out.drewN _) h4);have HB4:Hid (Below w0.heap.size w0 w4):=q12 h4 (by first|exact HB3.out|exact x15 HB3.out|exact q15 HB3.out _);have z1:=bc 0 HG4.out hc1;have z2:=bc 1 HG4.out hc2;have z3:=bc 3 HM4.out rfl));have n1:=bc 1 HN5.out rfl;have nf1:=q13 (i:=1) HN5.out;have n2:=bc 2 HN5.out rfl;have nf2:=q13 (i:=2) HN5.out;have nz:=q14 HN5.out;have y0:=bc 0 hb5 rfl;have y0z:=q14 hb5;have hw5:w0.heap.size≤w5.heap.size:=by omega
  have hne8:¬w.heap.size+1+1+1=n8:=by omega
  have hne9:¬n8=w.heap.size+1+1+1:=by omega
  clear z1 z2 z3 v1 v2 v3 v4 u3;go_wp2_with fail;refine(v110 (some ⟨w5.heap.size,0,none⟩) 1 1 [([],(x1,x2))] _ rfl (SpG.built_at (en:=j18) (n:=3) elemPt.len _ w5.heap.size (by simp[World.setCell]) [([],(x1,x2))] #[.string ⟨#[]⟩,.int .i64 x1,.int .i64 x2] rfl 89) (show 1≤3000 by decide) HLOW.out).mono ?_;rintro e w6⟨rfl,h6⟩;have HP6:=Lib.hid (SpT.below (SpT.built_at (en:=j18) (n:=3) elemPt.len _ w5.heap.size (by simp[World.setCell]) [([],(x1,x2))] #[.string ⟨#[]⟩,.int .i64 x1,.int .i64 x2] rfl 89) h6);have HN6:=Lib.hid (j3 h6 (j16 (j15 (j15 HN5.out))));have HX6:=Lib.hid (j3 h6 (j16 (z11 hne8 (z11 hne8 HX5.out))));have HO6:=Lib.hid (OwnG.below (((ho5.set_ty HN5.out (by decide) _).set_ty (j15 HN5.out) (by decide) _).alloc _) h6);have HB6:=Lib.hid (q12 h6 (q11 (w14 (w14 hl5 hb13 _) hb13 _) _));have m0:=bc 0 HN6.out rfl;have mf0:=q13 (i:=0) HN6.out;have m1:=bc 1 HN6.out rfl;have mf1:=q13 (i:=1) HN6.out;have m2:=bc 2 HN6.out rfl;have mf2:=q13 (i:=2) HN6.out;have m3:=bc 3 HN6.out rfl;have mf3:=q13 (i:=3) HN6.out;have mz:=q14 HN6.out;have ee0:=bc 0 HX6.out rfl;have eef0:=q13 (i:=0) HX6.out;have ee1:=bc 1 HX6.out rfl;have eef1:=q13 (i:=1) HX6.out;have ee2:=bc 2 HX6.out rfl;have eef2:=q13 (i:=2) HX6.out;have ee3:=bc 3 HX6.out rfl;have eef3:=q13 (i:=3) HX6.out;have eez:=q14 HX6.out;go_wp2_with fail;refine bodyPost_ret (by simp[results,Tryz.results73,go_sem,ee0,ee1,ee2,ee3];try rfl) rfl ?_;have q8:=HN6.out;have g0:=z11 hne8 (p:=⟨n8,3,none⟩) (v:=.int .i64 (z181 [([],(x1,x2))])) HX6.out;have g1:=j15 (i:=0) (v:=.int .i64 206) g0;have g2:=j15 (i:=1) (v:=.slice A5 (FL.length+1) c5) g1;have g3:=j15 (i:=2) (v:=.slice (some ⟨w5.heap.size,0,none⟩) 1 1) g2;have hz:w0.heap.size≤w.heap.size+1+1+1:=by omega
  exact⟨HSP.out _ HA.out _ _ ⟨A5,c5,FL.length+1,some ⟨w5.heap.size,0,none⟩,1,1,by rw[List.length_append];rfl,rfl,rfl,OwnG.spt elemFd.len (((((HO6.out.set_ty q8 (by decide) _).set_ty g0 (by decide) _).set_ty g1 (by decide) _).set_ty g2 (by decide) _).set_ty g3 (by decide) _),((((HP6.out.set_ty q8 (by decide) _).set_ty g0 (by decide) _).set_ty g1 (by decide) _).set_ty g2 (by decide) _).set_ty g3 (by decide) _,w14 (w14 (w14 (w14 (w14 HB6.out hb13 _) hz _) hz _) hz _) hz _⟩,fun k o hk hB=>by
   have hlt:=q14 hk;have e8:k≠w.heap.size+1+1+1:=by omega
   have e9:k≠w.heap.size+1+1:=by omega
   have en:k≠n8:=by omega
   have hB':(Value.slice FA FL.length fc).ownBlock≠some k:=by rw[k97 FA FL.length fk fc];exact hB
   exact z11 e8 (z11 e8 (z11 e8 (z11 e8 (z11 en (j3 h6 (j16 (z11 en (z11 en (hf5 k o (j3 h4 ((HV3.out.block k hlt).trans hk)) e9 hB')))))))))⟩
 ·have hS2:2≤S.length:=by omega
  obtain⟨bd,hbd⟩:∃b,q29 seed=b:=⟨_,rfl⟩;have HBO:Hid (w23 bd=true):=by simp only[Hid];rw[←hbd];exact z100 seed
  have hbl:bd.length=21:=by rw[←hbd];exact q65 seed
  have HBY:∀W,Below w0.heap.size w0 W→Hid (Calls Tryz.prog 130 #[.int .i64 seed] W fun e w'=>e=.returned (.string ⟨bd.toArray⟩)∧Below W.heap.size W w'):=fun W hW=>by have h:=j110 seed W hseed (HE.out.below hW);rw[hbd]at h;exact Lib.hid h
  have hcs:=catE (a:=[109,117,108,116,105,112,97,114,116,47,98,121,116,101,114,97,110,103,101,115,59,32,98,111,117,110,100,97,114,121,61]) (b:=bd) (by simp only[List.length_cons,List.length_nil];omega);obtain⟨tx,htx⟩:∃t,[109,117,108,116,105,112,97,114,116,47,98,121,116,101,114,97,110,103,101,115,59,32,98,111,117,110,100,97,114,121,61]++bd=t:=⟨_,rfl⟩;obtain⟨PL,hPL⟩:∃P,x37 S ln [97,112,112,108,105,99,97,116,105,111,110,47,111,99,116,101,116,45,115,116,114,101,97,109] bd=P:=⟨_,rfl⟩;have HA:Hid (j24 ⟨tg,wk,mo,ln,hv,fr,wh,er,ks,tn,kp⟩ S seed=⟨206,FL++[(nCT,tx)],PL,z181 PL⟩):=by simp only[Hid];rw[y81 hS2,←HFL.out,hbd,←htx,←hPL];rfl
  rw[htx]at hcs;have HLOW:Hid (LowP PL):=by simp only[Hid];rw[←hPL];exact lowL (by decide) (by omega) HC.out
  have hPLl:PL.length≤200:=by rw[←hPL,x65];omega
  have HPT:∀W,Sp W (some ⟨g,0,none⟩) d2 S→Below w0.heap.size w0 W→Hid (Calls Tryz.prog 131 #[.slice (some ⟨g,0,none⟩) S.length d2,.int .i64 ln,.string ⟨#[97,112,112,108,105,99,97,116,105,111,110,47,111,99,116,101,116,45,115,116,114,101,97,109]⟩,.string ⟨bd.toArray⟩] W (v92 PL W)):=fun W hs hW=>by have h:=y145 (some ⟨g,0,none⟩) d2 S ln [97,112,112,108,105,99,97,116,105,111,110,47,111,99,116,101,116,45,115,116,114,101,97,109] bd W hs (by omega) (by omega) (fun x hx=>(HC.out x hx).1) j127 HBO.out (HE.out.below hW);rw[hPL]at h;exact Lib.hid h
  have hS1b:((S.length:Int)==1)=false:=by rw[beq_eq_false_iff_ne];omega
  clear hbd htx hPL HCTN;go_upto_region 14 with fail;rw[HW3.out];try rw[HN8.out]
  clear HW3 HN8;go_upto_region 17 with(first|(go_at_call 131;refine(HPT _ HP5.out.sp hl5).out.mono ?_;rintro e w6⟨AP,cP,kP,hkP,rfl,hoP,h6⟩;have HN6:=Lib.hid (j3 h6 HN5.out);have HX6:=Lib.hid (j3 h6 HX5.out);have HK6:=Lib.hid (j3 h6 hb5);have HO6:=Lib.hid (ho5.below h6);have HB6:=Lib.hid (q12 h6 hl5);have n2:=bc 2 HN6.out rfl;have nf2:=q13 (i:=2) HN6.out;have nz:=q14 HN6.out)|(go_at_call 128;refine(k55 (w0:=w0) [67,111,110,116,101,110,116,45,84,121,112,101] tx HK4.out HF0.out HO4.out HB4.out (by omega) (by omega)).mono ?_;rintro e w5⟨rfl,A5,c5,k5,hk5,hb5,ho5,hl5,hf5⟩;have NT:=HO4.out;have HX5:=Lib.hid (hf5.block HX4.out (by omega) (NT.ne_ty HX4.out (by decide)));have HN5:=Lib.hid (hf5.block HN4.out (by omega) (NT.ne_ty HN4.out (by decide)));have HG5:=Lib.hid (hf5.block HG4.out (Ne.symm hKG) (NT.ne_ty HG4.out (by decide)));have HM5:=Lib.hid (hf5.block HM4.out (by omega) (NT.ne_ty HM4.out (by decide)));have HP5:=Lib.hid (k110 HP4.out (HG5.out.trans HG4.out.symm));have u3:=bc 3 HM5.out rfl)|(go_at_call 130;refine(HBY _ HB3.out).out.mono ?_;rintro e w4⟨rfl,h4⟩;have HM4:=Lib.hid (j3 h4 HM3.out);have HK4:=Lib.hid (j3 h4 HK3.out);have HX4:=Lib.hid (j3 h4 HX3.out);have HN4:=Lib.hid (j3 h4 HN3.out);have HG4:=Lib.hid (j3 h4 HG3.out);have HO4:=Lib.hid (HO3.out.below h4);have HB4:=Lib.hid (q12 h4 HB3.out);have HP4:=Lib.hid (HP3.out.below h4)));have q5:=hk5;have j0:=bc 0 HK6.out rfl;have j1:=bc 1 HN6.out rfl;have jf:=q13 (i:=1) HN6.out;have hne8:¬w.heap.size+1+1+1=n8:=by omega
  have hne9:¬n8=w.heap.size+1+1+1:=by omega
  have hz:w0.heap.size≤w.heap.size+1+1+1:=by omega
  go_wp2_with fail;have HPS:=Lib.hid ((hoP.set_ty HN6.out (by decide) (i:=2) (.slice AP PL.length cP)).set_ty (j15 HN6.out) (by decide) (i:=1) (.slice A5 (FL.length+1) c5));refine(v110 AP cP PL.length PL _ rfl (HPS.out.spg elemPt.len) (by omega) HLOW.out).mono ?_;rintro e w7⟨rfl,h7⟩;have HP7:=Lib.hid (HPS.out.below h7);have HN7:=Lib.hid (j3 h7 (j15 (j15 HN6.out)));have HX7:=Lib.hid (j3 h7 (z11 hne8 (z11 hne8 HX6.out)));have HO7:=Lib.hid (OwnG.below ((HO6.out.set_ty HN6.out (by decide) _).set_ty (j15 HN6.out) (by decide) _) h7);have HB7:=Lib.hid (q12 h7 (w14 (w14 HB6.out hb13 _) hb13 _));have m0:=bc 0 HN7.out rfl;have mf0:=q13 (i:=0) HN7.out;have m1:=bc 1 HN7.out rfl;have mf1:=q13 (i:=1) HN7.out;have m2:=bc 2 HN7.out rfl;have mf2:=q13 (i:=2) HN7.out;have m3:=bc 3 HN7.out rfl;have mf3:=q13 (i:=3) HN7.out;have mz:=q14 HN7.out;have ee0:=bc 0 HX7.out rfl;have eef0:=q13 (i:=0) HX7.out;have ee1:=bc 1 HX7.out rfl;have eef1:=q13 (i:=1) HX7.out;have ee2:=bc 2 HX7.out rfl;have eef2:=q13 (i:=2) HX7.out;have ee3:=bc 3 HX7.out rfl;have eef3:=q13 (i:=3) HX7.out;have eez:=q14 HX7.out;go_wp2_with fail;refine bodyPost_ret (by simp[results,Tryz.results73,go_sem,ee0,ee1,ee2,ee3];try rfl) rfl ?_;have q8:=HN7.out;have g0:=z11 hne8 (p:=⟨n8,3,none⟩) (v:=.int .i64 (z181 PL)) HX7.out;have g1:=j15 (i:=0) (v:=.int .i64 206) g0;have g2:=j15 (i:=1) (v:=.slice A5 (FL.length+1) c5) g1;have g3:=j15 (i:=2) (v:=.slice AP PL.length cP) g2;exact⟨HSP.out _ HA.out _ _ ⟨A5,c5,FL.length+1,AP,cP,PL.length,by rw[List.length_append];rfl,rfl,rfl,OwnG.spt elemFd.len (((((HO7.out.set_ty q8 (by decide) _).set_ty g0 (by decide) _).set_ty g1 (by decide) _).set_ty g2 (by decide) _).set_ty g3 (by decide) _),OwnG.spt elemPt.len (((((HP7.out.set_ty q8 (by decide) _).set_ty g0 (by decide) _).set_ty g1 (by decide) _).set_ty g2 (by decide) _).set_ty g3 (by decide) _),w14 (w14 (w14 (w14 (w14 HB7.out hb13 _) hz _) hz _) hz _) hz _⟩,fun k o hk hB=>by
   have hlt:=q14 hk;have e8:k≠w.heap.size+1+1+1:=by omega
   have e9:k≠w.heap.size+1+1:=by omega
   have en:k≠n8:=by omega
   have hB':(Value.slice FA FL.length fc).ownBlock≠some k:=by rw[k97 FA FL.length fk fc];exact hB
   exact z11 e8 (z11 e8 (z11 e8 (z11 e8 (z11 en (j3 h7 (z11 en (z11 en (j3 h6 (hf5 k o (j3 h4 ((HV3.out.block k hlt).trans hk)) e9 hB')))))))))⟩
def countB(r:ReqL)(m:MetaL)(o cs:Int):Bool:=decide (o=1)&&!r.hd&&!r.L.isEmpty&&!q46 m.hv cs r.L
def k43(r:ReqL)(m:MetaL)(o cs seed:Int)(w:World)(e:Ending)(w':World):Prop:=if o=3 then j39 ⟨304,x21 m,[],0⟩ w e w' else if o=4 then j39 ⟨412,x21 m,[],0⟩ w e w' else if countB r m o cs=true then q44 m (resL m.hv r.L) seed w e w' else j39 (w42 m r.hd) w e w'
def cfgV(j0 j1 j2 cs j4 j5 j6 j7 j8 j9:Int):Value:=.agg #[.int .i64 j0,.int .i64 j1,.int .i64 j2,.int .i64 cs,.int .i64 j4,.int .i64 j5,.int .i64 j6,.int .i64 j7,.int .i64 j8,.int .i64 j9]
structure SSt(w wx:World)(RC MC CC:Array Value)(FA:Option Addr)(fc:Nat)(FL:List j36):Prop where
 mq:wx.heap[w.heap.size]?=some (.cells RC 29 (0,0))
 mm:wx.heap[w.heap.size+1]?=some (.cells MC 45 (0,0))
 mc:wx.heap[w.heap.size+1+1]?=some (.cells CC 33 (0,0))
 mx:wx.heap[(w.heap.size+1+1+1)]?=some (.cells #[.int .i64 0,.slice none 0 0,.slice none 0 0,.int .i64 0] 74 (0,0))
 own:OwnG 176 w18 2 wx w.heap.size FA fc FL
 bel:Below w.heap.size w wx
theorem SSt.below{w wx w':World}{RC MC CC:Array Value}{FA:Option Addr}{fc:Nat}{FL:List j36}(h:SSt w wx RC MC CC FA fc FL)(hb:Below wx.heap.size wx w'):SSt w w' RC MC CC FA fc FL:=⟨j3 hb h.mq,j3 hb h.mm,j3 hb h.mc,j3 hb h.mx,h.own.below hb,q12 hb h.bel⟩
theorem SpT.alloc{α:Type}{T:TypeId}{en:α→List Value}{n:Nat}{w:World}{A:Option Addr}{c:Nat}{L:List α}(h:SpT T en n w A c L)(o:Obj):SpT T en n (w.alloc o) A c L:=h.below (q11 (Below.refl _ _) o)
theorem q146(r:ReqL)(m:MetaL)(KA:Option Addr)(kc:Nat)(o j0 j1 j2 cs j4 j5 j6 j7 j8 j9:Int)(seed:Int)(w:World)(hsp:Sp w r.A r.c r.L)(hR:allR r.L=true)(hl:r.L.length≤70)(hks:SpG encT 1 w KA kc m.keys)(hok:MetaOk m)(henv:Env w)(hseed:-9223372036854775808≤seed∧seed≤9223372036854775807)(hcs:(Lit.int .i64 cs).wf=true):Calls Tryz.prog 20 #[.agg (reqA r),j25 m KA kc,.int .i64 o,cfgV j0 j1 j2 cs j4 j5 j6 j7 j8 j9,.int .i64 seed] w (k43 r m o cs seed w):=by
 have HFD:=fun W hk ht=>Lib.hid (q97 m KA kc W hk hok ht);have HCO:=fun W hs=>Lib.hid (v119 r.A r.c r.L m.hv cs W hs (by omega) hR hok.hv.1 hok.hv.2 hcs);have HRG:=fun FA fc fk W hs hfk hown hb=>Lib.hid (z133 r m KA kc FA fc fk seed w W hs hR hl hok hfk hown hb henv hseed);have HS:=Lib.hid hsp;have HK:=Lib.hid hks;have HE:=Lib.hid henv;have HOK:=Lib.hid hok;have HCB:Hid (countB r m o cs=(decide (o=1)&&!r.hd&&!r.L.isEmpty&&!q46 m.hv cs r.L)):=rfl;have HPOST:Hid (∀e w',(if o=3 then j39 ⟨304,x21 m,[],0⟩ w e w' else if o=4 then j39 ⟨412,x21 m,[],0⟩ w e w' else if countB r m o cs=true then q44 m (resL m.hv r.L) seed w e w' else j39 (w42 m r.hd) w e w')→k43 r m o cs seed w e w'):=fun e w' h=>h;obtain⟨FL,hFL⟩:∃FL,x21 m=FL:=⟨_,rfl⟩;have HFL:=Lib.hid hFL;obtain⟨rb,hrb⟩:∃b,countB r m o cs=b:=⟨_,rfl⟩;rw[hrb]at HCB HPOST;obtain⟨cb,hcb⟩:∃b,q46 m.hv cs r.L=b:=⟨_,rfl⟩;rw[hcb]at HCO HCB;unfold q41 at HFD;rw[hFL]at HFD HRG HPOST;have HWA:Hid (w42 m r.hd=⟨200,FL,if r.hd=true∨m.len=0 then[]else[([],(0,if m.len=-1 then 4611686018427387904 else m.len))],m.len⟩):=by simp only[Hid];rw[←hFL];rfl
 clear hsp hks henv hok hrb hcb hFL hR hl;obtain⟨hd,ob,A,c,L,A1,n1,c1,A2,n2,c2,am,an,si,un,rt,rw⟩:=r;obtain⟨tg,wk,mo,ln,hv,fr,wh,er,ks,tn,kp⟩:=m;unfold j25 at HFD HRG⊢;unfold reqA at HRG⊢;unfold cfgV;simp only at HS HK HFD HCO HRG HCB HWA⊢;have hln0:=HOK.out.ln;simp only at hln0;go_enter Tryz.func20,Tryz.ntmps20;go_upto_region 1 with fail;obtain⟨W0,hW0⟩:∃W0,(((w.alloc (.cells #[.bool hd,.string ob,.slice A L.length c,.slice A1 n1 c1,.slice A2 n2 c2,.bool am,.bool an,.int .i64 si,.int .i64 un,.string rt,.bool rw] 29)).alloc (.cells #[.string ⟨tg.toArray⟩,.bool wk,.int .i64 mo,.int .i64 ln,.int .i64 hv,.int .i64 fr,.int .i64 wh,.int .i64 er,.slice KA ks.length kc,.string ⟨tn.toArray⟩,.bool kp] 45)).alloc (.cells #[.int .i64 j0,.int .i64 j1,.int .i64 j2,.int .i64 cs,.int .i64 j4,.int .i64 j5,.int .i64 j6,.int .i64 j7,.int .i64 j8,.int .i64 j9] 33)).alloc (.cells #[.int .i64 0,.slice none 0 0,.slice none 0 0,.int .i64 0] 74)=W0:=⟨_,rfl⟩;have HQ0:Hid (W0.heap[w.heap.size]?=some (.cells #[.bool hd,.string ob,.slice A L.length c,.slice A1 n1 c1,.slice A2 n2 c2,.bool am,.bool an,.int .i64 si,.int .i64 un,.string rt,.bool rw] 29 (0,0))):=by simp only[Hid];rw[←hW0];exact j16 (j16 (j16 (j17 rfl)))
 have HM0:Hid (W0.heap[w.heap.size+1]?=some (.cells #[.string ⟨tg.toArray⟩,.bool wk,.int .i64 mo,.int .i64 ln,.int .i64 hv,.int .i64 fr,.int .i64 wh,.int .i64 er,.slice KA ks.length kc,.string ⟨tn.toArray⟩,.bool kp] 45 (0,0))):=by simp only[Hid];rw[←hW0];exact j16 (j16 (j17 (by simp)))
 have HC0:Hid (W0.heap[w.heap.size+1+1]?=some (.cells #[.int .i64 j0,.int .i64 j1,.int .i64 j2,.int .i64 cs,.int .i64 j4,.int .i64 j5,.int .i64 j6,.int .i64 j7,.int .i64 j8,.int .i64 j9] 33 (0,0))):=by simp only[Hid];rw[←hW0];exact j16 (j17 (by simp))
 have HX0:Hid (W0.heap[(w.heap.size+1+1+1)]?=some (.cells #[.int .i64 0,.slice none 0 0,.slice none 0 0,.int .i64 0] 74 (0,0))):=by simp only[Hid];rw[←hW0];exact j17 (by simp)
 have HB0:Hid (Below w.heap.size w W0):=by simp only[Hid];rw[←hW0];(repeat(first|exact Below.refl _ _|refine q15 ?_ _|refine x15 ?_|refine q11 ?_ _|refine w14 ?_ (by simp) _))
 have hzW:w.heap.size≤W0.heap.size:=HB0.out.size;rw[hW0];clear hW0;have v0:=bc 0 HM0.out rfl;have v1:=bc 1 HM0.out rfl;have v2:=bc 2 HM0.out rfl;have v3:=bc 3 HM0.out rfl;have v4:=bc 4 HM0.out rfl;have v5:=bc 5 HM0.out rfl;have v6:=bc 6 HM0.out rfl;have v7:=bc 7 HM0.out rfl;have v8:=bc 8 HM0.out rfl;have v9:=bc 9 HM0.out rfl;have v10:=bc 10 HM0.out rfl;go_upto_region 2 with(first|(go_at_call 71;refine(HFD _ (HK.out.below HB0.out) (HE.out.below HB0.out).tab).out.mono ?_;rintro e w1⟨FA,fc,fk,hfk,rfl,hown,h1⟩));have S1:Hid (SSt w w1 #[.bool hd,.string ob,.slice A L.length c,.slice A1 n1 c1,.slice A2 n2 c2,.bool am,.bool an,.int .i64 si,.int .i64 un,.string rt,.bool rw] #[.string ⟨tg.toArray⟩,.bool wk,.int .i64 mo,.int .i64 ln,.int .i64 hv,.int .i64 fr,.int .i64 wh,.int .i64 er,.slice KA ks.length kc,.string ⟨tn.toArray⟩,.bool kp] #[.int .i64 j0,.int .i64 j1,.int .i64 j2,.int .i64 cs,.int .i64 j4,.int .i64 j5,.int .i64 j6,.int .i64 j7,.int .i64 j8,.int .i64 j9] FA fc FL):=⟨j3 h1 HQ0.out,j3 h1 HM0.out,j3 h1 HC0.out,j3 h1 HX0.out,OwnG.base_le hown hzW,q12 h1 HB0.out⟩;have HFK:=Lib.hid hfk;clear hown h1 HQ0 HM0 HC0 HX0 HB0 hzW v0 v1 v2 v3 v4 v5 v6 v7 v8 v9 v10 HFD;have x0:=bc 0 S1.out.mx rfl;have x1:=bc 1 S1.out.mx rfl;have x2:=bc 2 S1.out.mx rfl;have x3:=bc 3 S1.out.mx rfl;have xf0:=q13 (i:=0) S1.out.mx;have xf1:=q13 (i:=1) S1.out.mx;have xf2:=q13 (i:=2) S1.out.mx;have xf3:=q13 (i:=3) S1.out.mx;have xz:=q14 S1.out.mx;by_cases h3:o=3;·
  subst h3;go_wp2_with fail;refine bodyPost_ret (by simp[results,Tryz.results20,go_sem,x0,x1,x2,x3];try rfl) rfl ?_;have g0:=S1.out.mx;have g1:=j15 (i:=0) (v:=.int .i64 304) g0;have g2:=j15 (i:=1) (v:=.slice FA FL.length fc) g1;have g3:=j15 (i:=2) (v:=.slice none 0 0) g2;refine HPOST.out _ _ ?_;first|rw[if_pos rfl]|rw[if_pos trivial]
  exact⟨FA,fc,FL.length,none,0,0,rfl,rfl,rfl,OwnG.spt elemFd.len ((((S1.out.own.set_ty g0 (by decide) _).set_ty g1 (by decide) _).set_ty g2 (by decide) _).set_ty g3 (by decide) _),SpT.nil _ _,w14 (w14 (w14 (w14 S1.out.bel (by simp;omega) _) (by simp;omega) _) (by simp;omega) _) (by simp;omega) _⟩
 by_cases h4:o=4;·
  subst h4;go_wp2_with fail;refine bodyPost_ret (by simp[results,Tryz.results20,go_sem,x0,x1,x2,x3];try rfl) rfl ?_;have g0:=S1.out.mx;have g1:=j15 (i:=0) (v:=.int .i64 412) g0;have g2:=j15 (i:=1) (v:=.slice FA FL.length fc) g1;have g3:=j15 (i:=2) (v:=.slice none 0 0) g2;refine HPOST.out _ _ ?_;first|rw[if_neg (by decide),if_pos rfl]|rw[if_neg (by decide),if_pos trivial]
  exact⟨FA,fc,FL.length,none,0,0,rfl,rfl,rfl,OwnG.spt elemFd.len ((((S1.out.own.set_ty g0 (by decide) _).set_ty g1 (by decide) _).set_ty g2 (by decide) _).set_ty g3 (by decide) _),SpT.nil _ _,w14 (w14 (w14 (w14 S1.out.bel (by simp;omega) _) (by simp;omega) _) (by simp;omega) _) (by simp;omega) _⟩
 have b3:(o==3)=false:=by rw[beq_eq_false_iff_ne];exact h3
 have b4:(o==4)=false:=by rw[beq_eq_false_iff_ne];exact h4
 have HN3:=Lib.hid h3;have HN4:=Lib.hid h4;clear h3 h4;have y0:=bc 0 S1.out.mq rfl;have y2:=bc 2 S1.out.mq rfl;have y4:=bc 4 S1.out.mm rfl;have yc:=bc 3 S1.out.mc rfl;go_upto_region 7 with fail;clear b3 b4;go_cut[51](fun s51 wx=>s51=.bool rb∧SSt w wx #[.bool hd,.string ob,.slice A L.length c,.slice A1 n1 c1,.slice A2 n2 c2,.bool am,.bool an,.int .i64 si,.int .i64 un,.string rt,.bool rw] #[.string ⟨tg.toArray⟩,.bool wk,.int .i64 mo,.int .i64 ln,.int .i64 hv,.int .i64 fr,.int .i64 wh,.int .i64 er,.slice KA ks.length kc,.string ⟨tn.toArray⟩,.bool kp] #[.int .i64 j0,.int .i64 j1,.int .i64 j2,.int .i64 cs,.int .i64 j4,.int .i64 j5,.int .i64 j6,.int .i64 j7,.int .i64 j8,.int .i64 j9] FA fc FL);case first=>
  by_cases h1:o=1;·
   subst h1;cases hd with
    |true=>
     have E:rb=false:=by rw[HCB.out];rfl
     go_wp2_with fail;go_meet;exact⟨by rw[E],S1.out⟩
    |false=>
     by_cases hL:L=[];·
      have E:rb=false:=by rw[HCB.out,hL];rfl
      have hl0:¬(0:Int)<(L.length:Int):=by rw[hL];decide
      clear hL;go_wp2_with fail;go_meet;exact⟨by rw[E],S1.out⟩
     ·have E:rb=!cb:=by rw[HCB.out];cases L with|nil=>exact absurd rfl hL|cons a r=>rfl
      have hl0:(0:Int)<(L.length:Int):=by have:=List.length_pos_iff.2 hL;omega
      clear hL;go_wp2_with(go_at_call 72;refine(HCO _ (HS.out.below S1.out.bel)).out.mono ?_;rintro e w2⟨rfl,h2⟩);go_meet;exact⟨by rw[E],S1.out.below h2⟩
  ·have E:rb=false:=by rw[HCB.out,decide_eq_false h1];rfl
   have b1:(o==1)=false:=by rw[beq_eq_false_iff_ne];exact h1
   clear h1;go_wp2_with fail;go_meet;exact⟨by rw[E],S1.out⟩
 case rest=>
  obtain⟨rfl,hst⟩:=hcut;have S2:=Lib.hid hst;clear hst S1 x0 x1 x2 x3 xf0 xf1 xf2 xf3 xz y0 y2 y4 yc HCO HCB;have x0:=bc 0 S2.out.mx rfl;have x1:=bc 1 S2.out.mx rfl;have x2:=bc 2 S2.out.mx rfl;have x3:=bc 3 S2.out.mx rfl;have xf0:=q13 (i:=0) S2.out.mx;have xf1:=q13 (i:=1) S2.out.mx;have xf2:=q13 (i:=2) S2.out.mx;have xf3:=q13 (i:=3) S2.out.mx;have xz:=q14 S2.out.mx;have q0:=bc 0 S2.out.mq rfl;have q1:=bc 1 S2.out.mq rfl;have q2:=bc 2 S2.out.mq rfl;have q3:=bc 3 S2.out.mq rfl;have q4:=bc 4 S2.out.mq rfl;have q5:=bc 5 S2.out.mq rfl;have q6:=bc 6 S2.out.mq rfl;have q7:=bc 7 S2.out.mq rfl;have q8:=bc 8 S2.out.mq rfl;have q9:=bc 9 S2.out.mq rfl;have q10:=bc 10 S2.out.mq rfl;have v0:=bc 0 S2.out.mm rfl;have v1:=bc 1 S2.out.mm rfl;have v2:=bc 2 S2.out.mm rfl;have v3:=bc 3 S2.out.mm rfl;have v4:=bc 4 S2.out.mm rfl;have v5:=bc 5 S2.out.mm rfl;have v6:=bc 6 S2.out.mm rfl;have v7:=bc 7 S2.out.mm rfl;have v8:=bc 8 S2.out.mm rfl;have v9:=bc 9 S2.out.mm rfl;have v10:=bc 10 S2.out.mm rfl;cases rb with
   |true=>
    have HG:=Lib.hid (HRG FA fc FL.length wc (HS.out.below S2.out.bel) rfl S2.out.own S2.out.bel).out;go_wp2_with fail;refine HG.out.mono ?_;rintro e w3⟨⟨O,hO,GA,gc,gk,PA,pc,pk,hgk,hpk,rfl,hg,hp,hb⟩,hkp⟩;have HX3:=Lib.hid (hkp _ _ S2.out.mx (S2.out.own.ne_ty S2.out.mx (by decide)));clear x0 x1 x2 x3 xf0 xf1 xf2 xf3 xz;have z0:=bc 0 HX3.out rfl;have zf0:=q13 (i:=0) HX3.out;have z1:=bc 1 HX3.out rfl;have zf1:=q13 (i:=1) HX3.out;have z2:=bc 2 HX3.out rfl;have zf2:=q13 (i:=2) HX3.out;have z3:=bc 3 HX3.out rfl;have zf3:=q13 (i:=3) HX3.out;have zz:=q14 HX3.out;have hgk':=Lib.hid hgk;have hpk':=Lib.hid hpk;clear hgk hpk;go_wp2_with fail;refine bodyPost_ret (by simp[results,Tryz.results20,go_sem,z0,z1,z2,z3];try rfl) rfl ?_;refine HPOST.out _ _ ?_;rw[if_neg HN3.out,if_neg HN4.out];first|rw[if_pos rfl]|rw[if_pos trivial]
    have g0:=HX3.out;have g1:=j15 (i:=0) (v:=.int .i64 (j24 ⟨tg,wk,mo,ln,hv,fr,wh,er,ks,tn,kp⟩ (O.map Prod.fst) seed).st) g0;have g2:=j15 (i:=1) (v:=.slice GA gk gc) g1;have g3:=j15 (i:=2) (v:=.slice PA pk pc) g2;exact⟨O,hO,GA,gc,gk,PA,pc,pk,hgk'.out,hpk'.out,rfl,(((hg.set_ty g0 (by decide) _).set_ty g1 (by decide) _).set_ty g2 (by decide) _).set_ty g3 (by decide) _,(((hp.set_ty g0 (by decide) _).set_ty g1 (by decide) _).set_ty g2 (by decide) _).set_ty g3 (by decide) _,w14 (w14 (w14 (w14 hb (by simp;omega) _) (by simp;omega) _) (by simp;omega) _) (by simp;omega) _⟩
   |false=>
    have hz:w.heap.size≤w.heap.size+1+1+1:=by omega
    have zq:=q14 S2.out.mq;have zm:=q14 S2.out.mm;go_upto_region 10 with fail;obtain⟨W3,hW3⟩:∃W3,wc.alloc (.cells #[.int .i64 200,.slice FA FL.length fc,.slice none 0 0,.int .i64 ln] 74)=W3:=⟨_,rfl⟩;have HQ5:Hid (W3.heap[w.heap.size]?=some (.cells #[.bool hd,.string ob,.slice A L.length c,.slice A1 n1 c1,.slice A2 n2 c2,.bool am,.bool an,.int .i64 si,.int .i64 un,.string rt,.bool rw] 29 (0,0))):=by simp only[Hid];rw[←hW3];exact j16 S2.out.mq
    have HM5:Hid (W3.heap[w.heap.size+1]?=some (.cells #[.string ⟨tg.toArray⟩,.bool wk,.int .i64 mo,.int .i64 ln,.int .i64 hv,.int .i64 fr,.int .i64 wh,.int .i64 er,.slice KA ks.length kc,.string ⟨tn.toArray⟩,.bool kp] 45 (0,0))):=by simp only[Hid];rw[←hW3];exact j16 S2.out.mm
    have HX5:Hid (W3.heap[(w.heap.size+1+1+1)]?=some (.cells #[.int .i64 0,.slice none 0 0,.slice none 0 0,.int .i64 0] 74 (0,0))):=by simp only[Hid];rw[←hW3];exact j16 S2.out.mx
    have HN5:Hid (W3.heap[wc.heap.size]?=some (.cells #[.int .i64 200,.slice FA FL.length fc,.slice none 0 0,.int .i64 ln] 74 (0,0))):=by simp only[Hid];rw[←hW3];exact j17 rfl
    have HO5:Hid (OwnG 176 w18 2 W3 w.heap.size FA fc FL):=by simp only[Hid];rw[←hW3];exact S2.out.own.alloc _
    have HB5:Hid (Below w.heap.size w W3):=by simp only[Hid];rw[←hW3];exact q11 S2.out.bel _
    have hX8:=q14 S2.out.mx;obtain⟨n8,hn8⟩:∃n,wc.heap.size=n:=⟨_,rfl⟩;rw[hn8]at HN5 hX8;rw[hW3];try rw[hn8]
    clear hW3 hn8 S2 x0 x1 x2 x3 xf0 xf1 xf2 xf3 xz zq zm q0 q1 q2 q3 q4 q5 q6 q7 q8 q9 q10 v0 v1 v2 v3 v4 v5 v6 v7 v8 v9 v10 hfk HRG;have hne8:¬w.heap.size+1+1+1=n8:=by omega
    have hne9:¬n8=w.heap.size+1+1+1:=by omega
    have hzn:w.heap.size≤n8:=by omega
    have q0:=bc 0 HQ5.out rfl;have v3:=bc 3 HM5.out rfl;have vz:=q14 HM5.out;have e0:=bc 0 HX5.out rfl;have ef0:=q13 (i:=0) HX5.out;have e1:=bc 1 HX5.out rfl;have ef1:=q13 (i:=1) HX5.out;have e2:=bc 2 HX5.out rfl;have ef2:=q13 (i:=2) HX5.out;have e3:=bc 3 HX5.out rfl;have ef3:=q13 (i:=3) HX5.out;have ez:=q14 HX5.out;have n0:=bc 0 HN5.out rfl;have nf0:=q13 (i:=0) HN5.out;have n1:=bc 1 HN5.out rfl;have nf1:=q13 (i:=1) HN5.out;have n2:=bc 2 HN5.out rfl;have nf2:=q13 (i:=2) HN5.out;have n3:=bc 3 HN5.out rfl;have nf3:=q13 (i:=3) HN5.out;have nz:=q14 HN5.out;cases hd with
     |true=>go_wp2_with fail;refine bodyPost_ret (by simp[results,Tryz.results20,go_sem,e0,e1,e2,e3];try rfl) rfl ?_;refine HPOST.out _ _ ?_;rw[if_neg HN3.out,if_neg HN4.out];rw[if_neg (by decide),HWA.out,if_pos (by first|exact .inl rfl|exact .inl trivial)];have g0:=HX5.out;have g1:=j15 (i:=0) (v:=.int .i64 200) g0;have g2:=j15 (i:=1) (v:=.slice FA FL.length fc) g1;have g3:=j15 (i:=2) (v:=.slice none 0 0) g2;exact⟨FA,fc,FL.length,none,0,0,rfl,rfl,rfl,OwnG.spt elemFd.len ((((HO5.out.set_ty g0 (by decide) _).set_ty g1 (by decide) _).set_ty g2 (by decide) _).set_ty g3 (by decide) _),SpT.nil _ _,w14 (w14 (w14 (w14 HB5.out hz _) hz _) hz _) hz _⟩
     |false=>
      by_cases hl0:ln=0;·subst hl0;go_wp2_with fail;refine bodyPost_ret (by simp[results,Tryz.results20,go_sem,e0,e1,e2,e3];try rfl) rfl ?_;refine HPOST.out _ _ ?_;rw[if_neg HN3.out,if_neg HN4.out];rw[if_neg (by decide),HWA.out,if_pos (by first|exact .inr rfl|exact .inr trivial)];have g0:=HX5.out;have g1:=j15 (i:=0) (v:=.int .i64 200) g0;have g2:=j15 (i:=1) (v:=.slice FA FL.length fc) g1;have g3:=j15 (i:=2) (v:=.slice none 0 0) g2;exact⟨FA,fc,FL.length,none,0,0,rfl,rfl,rfl,OwnG.spt elemFd.len ((((HO5.out.set_ty g0 (by decide) _).set_ty g1 (by decide) _).set_ty g2 (by decide) _).set_ty g3 (by decide) _),SpT.nil _ _,w14 (w14 (w14 (w14 HB5.out hz _) hz _) hz _) hz _⟩
      ·have b0:(ln==0)=false:=by rw[beq_eq_false_iff_ne];exact hl0
       have HL0:=Lib.hid hl0;clear hl0;by_cases hl1:ln=-1;·
        subst hl1;go_upto_region 16 with fail;obtain⟨W6,hW6⟩:∃W6,((W3.setCell ⟨n8,2,none⟩ (.slice (some ⟨W3.heap.size+1,0,none⟩) 1 1)).alloc (.cells #[.int .i64 0,.int .i64 4611686018427387904] 59)).alloc (.cells #[.string ⟨#[]⟩,.int .i64 0,.int .i64 4611686018427387904] 89)=W6:=⟨_,rfl⟩;have HX6:Hid (W6.heap[w.heap.size+1+1+1]?=some (.cells #[.int .i64 0,.slice none 0 0,.slice none 0 0,.int .i64 0] 74 (0,0))):=by simp only[Hid];rw[←hW6];exact j16 (j16 (z11 hne8 HX5.out))
        have HN6:Hid (W6.heap[n8]?=some (.cells #[.int .i64 200,.slice FA FL.length fc,.slice (some ⟨W3.heap.size+1,0,none⟩) 1 1,.int .i64 (-1)] 74 (0,0))):=by simp only[Hid];rw[←hW6];exact j16 (j16 (j15 HN5.out))
        have HO6:Hid (OwnG 176 w18 2 W6 w.heap.size FA fc FL):=by simp only[Hid];rw[←hW6];exact((HO5.out.set_ty HN5.out (by decide) _).alloc _).alloc _
        have HB6:Hid (Below w.heap.size w W6):=by simp only[Hid];rw[←hW6];exact q11 (q11 (w14 HB5.out hzn _) _) _
        have HP6:Hid (SpT 89 j18 3 W6 (some ⟨W3.heap.size+1,0,none⟩) 1 [([],(0,4611686018427387904))]):=by simp only[Hid];rw[←hW6];exact SpT.built_at (en:=j18) (n:=3) elemPt.len _ _ (by simp[World.setCell]) [([],(0,4611686018427387904))] _ rfl _
        obtain⟨pb,hpb⟩:∃p,W3.heap.size+1=p:=⟨_,rfl⟩;rw[hpb]at HN6 HP6 hW6;try rw[hpb]
        rw[hW6];clear hW6 hpb HX5 HN5 HO5 HB5 HQ5 HM5 q0 v3 vz e0 e1 e2 e3 ef0 ef1 ef2 ef3 ez n0 n1 n2 n3 nf0 nf1 nf2 nf3 nz;have d0:=bc 0 HX6.out rfl;have df0:=q13 (i:=0) HX6.out;have d1:=bc 1 HX6.out rfl;have df1:=q13 (i:=1) HX6.out;have d2:=bc 2 HX6.out rfl;have df2:=q13 (i:=2) HX6.out;have d3:=bc 3 HX6.out rfl;have df3:=q13 (i:=3) HX6.out;have dz:=q14 HX6.out;have n0:=bc 0 HN6.out rfl;have nf0:=q13 (i:=0) HN6.out;have n1:=bc 1 HN6.out rfl;have nf1:=q13 (i:=1) HN6.out;have n2:=bc 2 HN6.out rfl;have nf2:=q13 (i:=2) HN6.out;have n3:=bc 3 HN6.out rfl;have nf3:=q13 (i:=3) HN6.out;have nz:=q14 HN6.out;go_wp2_with fail;refine bodyPost_ret (by simp[results,Tryz.results20,go_sem,d0,d1,d2,d3];try rfl) rfl ?_;refine HPOST.out _ _ ?_;rw[if_neg HN3.out,if_neg HN4.out];rw[if_neg (by decide),HWA.out,if_neg (by rintro(h|h)<;>first|exact HL0.out h|cases h)];first|rw[if_pos rfl]|rw[if_pos trivial]
        have g0:=HX6.out;have g1:=j15 (i:=0) (v:=.int .i64 200) g0;have g2:=j15 (i:=1) (v:=.slice FA FL.length fc) g1;have g3:=j15 (i:=2) (v:=.slice (some ⟨pb,0,none⟩) 1 1) g2;exact⟨FA,fc,FL.length,some ⟨pb,0,none⟩,1,1,rfl,rfl,rfl,OwnG.spt elemFd.len ((((HO6.out.set_ty g0 (by decide) _).set_ty g1 (by decide) _).set_ty g2 (by decide) _).set_ty g3 (by decide) _),(((HP6.out.set_ty g0 (by decide) _).set_ty g1 (by decide) _).set_ty g2 (by decide) _).set_ty g3 (by decide) _,w14 (w14 (w14 (w14 HB6.out hz _) hz _) hz _) hz _⟩
       ·have b1:(ln==-1)=false:=by rw[beq_eq_false_iff_ne];exact hl1
        have HL1:=Lib.hid hl1;clear hl1;go_upto_region 16 with fail;obtain⟨W6,hW6⟩:∃W6,((W3.setCell ⟨n8,2,none⟩ (.slice (some ⟨W3.heap.size+1,0,none⟩) 1 1)).alloc (.cells #[.int .i64 0,.int .i64 ln] 59)).alloc (.cells #[.string ⟨#[]⟩,.int .i64 0,.int .i64 ln] 89)=W6:=⟨_,rfl⟩;have HX6:Hid (W6.heap[w.heap.size+1+1+1]?=some (.cells #[.int .i64 0,.slice none 0 0,.slice none 0 0,.int .i64 0] 74 (0,0))):=by simp only[Hid];rw[←hW6];exact j16 (j16 (z11 hne8 HX5.out))
        have HN6:Hid (W6.heap[n8]?=some (.cells #[.int .i64 200,.slice FA FL.length fc,.slice (some ⟨W3.heap.size+1,0,none⟩) 1 1,.int .i64 ln] 74 (0,0))):=by simp only[Hid];rw[←hW6];exact j16 (j16 (j15 HN5.out))
        have HO6:Hid (OwnG 176 w18 2 W6 w.heap.size FA fc FL):=by simp only[Hid];rw[←hW6];exact((HO5.out.set_ty HN5.out (by decide) _).alloc _).alloc _
        have HB6:Hid (Below w.heap.size w W6):=by simp only[Hid];rw[←hW6];exact q11 (q11 (w14 HB5.out hzn _) _) _
        have HP6:Hid (SpT 89 j18 3 W6 (some ⟨W3.heap.size+1,0,none⟩) 1 [([],(0,ln))]):=by simp only[Hid];rw[←hW6];exact SpT.built_at (en:=j18) (n:=3) elemPt.len _ _ (by simp[World.setCell]) [([],(0,ln))] _ rfl _
        obtain⟨pb,hpb⟩:∃p,W3.heap.size+1=p:=⟨_,rfl⟩;rw[hpb]at HN6 HP6 hW6;try rw[hpb]
        rw[hW6];clear hW6 hpb HX5 HN5 HO5 HB5 HQ5 HM5 q0 v3 vz e0 e1 e2 e3 ef0 ef1 ef2 ef3 ez n0 n1 n2 n3 nf0 nf1 nf2 nf3 nz;have d0:=bc 0 HX6.out rfl;have df0:=q13 (i:=0) HX6.out;have d1:=bc 1 HX6.out rfl;have df1:=q13 (i:=1) HX6.out;have d2:=bc 2 HX6.out rfl;have df2:=q13 (i:=2) HX6.out;have d3:=bc 3 HX6.out rfl;have df3:=q13 (i:=3) HX6.out;have dz:=q14 HX6.out;have n0:=bc 0 HN6.out rfl;have nf0:=q13 (i:=0) HN6.out;have n1:=bc 1 HN6.out rfl;have nf1:=q13 (i:=1) HN6.out;have n2:=bc 2 HN6.out rfl;have nf2:=q13 (i:=2) HN6.out;have n3:=bc 3 HN6.out rfl;have nf3:=q13 (i:=3) HN6.out;have nz:=q14 HN6.out;go_wp2_with fail;refine bodyPost_ret (by simp[results,Tryz.results20,go_sem,d0,d1,d2,d3];try rfl) rfl ?_;refine HPOST.out _ _ ?_;rw[if_neg HN3.out,if_neg HN4.out];rw[if_neg (by decide),HWA.out,if_neg (by rintro(h|h)<;>first|exact HL0.out h|cases h)];rw[if_neg HL1.out];have g0:=HX6.out;have g1:=j15 (i:=0) (v:=.int .i64 200) g0;have g2:=j15 (i:=1) (v:=.slice FA FL.length fc) g1;have g3:=j15 (i:=2) (v:=.slice (some ⟨pb,0,none⟩) 1 1) g2;exact⟨FA,fc,FL.length,some ⟨pb,0,none⟩,1,1,rfl,rfl,rfl,OwnG.spt elemFd.len ((((HO6.out.set_ty g0 (by decide) _).set_ty g1 (by decide) _).set_ty g2 (by decide) _).set_ty g3 (by decide) _),(((HP6.out.set_ty g0 (by decide) _).set_ty g1 (by decide) _).set_ty g2 (by decide) _).set_ty g3 (by decide) _,w14 (w14 (w14 (w14 HB6.out hz _) hz _) hz _) hz _⟩
structure CfgL where
 j0:Int
 j1:Int
 j2:Int
 cs:Int
 j4:Int
 j5:Int
 j6:Int
 j7:Int
 j8:Int
 j9:Int
structure FineP(r:ReqL)(m:MetaL)(o:Int):Prop where
 few:r.L.length≤70
 all_:allR r.L=true
 ok:MetaOk m
 out:1≤o∧o≤4
theorem y103{α:Type}{L L':List α}{k:Nat}(h1:k<L.length)(h2:k<L'.length)(h:L.take k=L'.take k)(he:L[k]=L'[k]):L.take (k+1)=L'.take (k+1):=by rw[List.take_succ_eq_append_getElem h1,List.take_succ_eq_append_getElem h2,h,he]
theorem k130{α:Type}{L L':List α}{k:Nat}(h1:k<L.length)(h2:k<L'.length)(he:L[k]≠L'[k]):L≠L':=by rintro rfl;exact he rfl
def lowC(c:UInt8):UInt8:=if 65≤c.toNat∧c.toNat≤90 then c+32 else c
def z10(a b:List UInt8):Bool:=a.map lowC==b.map lowC
def getF:List j36→List UInt8→Option (List UInt8)|[],_=>none|f::r,n=>if z10 f.1 n=true then some f.2 else getF r n
theorem w206{c:UInt8}(h1:65≤c.toNat)(h2:c.toNat≤90):(lowC c).toNat=c.toNat+32:=by unfold lowC;rw[if_pos ⟨h1,h2⟩,UInt8.toNat_add];have:(32:UInt8).toNat=32:=rfl;rw[this];omega
theorem w195{c:UInt8}(h:¬(65≤c.toNat∧c.toNat≤90)):(lowC c).toNat=c.toNat:=by unfold lowC;rw[if_neg h]
theorem j211(c:UInt8)(w:World):Calls Tryz.prog 177 #[.int .u8 (c.toNat:Int)] w fun e w'=>e=.returned (.int .u8 ((lowC c).toNat:Int))∧w'=w:=by
 have hc:=UInt8.toNat_lt c;by_cases h1:65≤c.toNat;·
  by_cases h2:c.toNat≤90;·
   have HV:Hid (((lowC c).toNat:Int)=(c.toNat:Int)+32):=by simp only[Hid];rw[w206 h1 h2];rfl
   have w1:IntKind.u8.wrap ((c.toNat:Int)+97)=(c.toNat:Int)+97:=by rw[IntKind.wrap_u8];omega
   have w2:IntKind.u8.wrap ((c.toNat:Int)+97-65)=(c.toNat:Int)+32:=by rw[IntKind.wrap_u8];omega
   go_enter Tryz.func177,Tryz.ntmps177;go_wp2_with fail;go_ret;exact⟨by rw[HV.out];first|rfl|(rw[w2]),rfl⟩
  ·have HV:Hid ((lowC c).toNat=c.toNat):=w195 (by omega);go_enter Tryz.func177,Tryz.ntmps177;go_wp2_with fail;go_ret;exact⟨by rw[HV.out];rfl,rfl⟩
 ·have HV:Hid ((lowC c).toNat=c.toNat):=w195 (by omega);go_enter Tryz.func177,Tryz.ntmps177;go_wp2_with fail;go_ret;exact⟨by rw[HV.out];rfl,rfl⟩
theorem x199(a b:List UInt8)(w:World)(ha:a.length≤1000000)(_:b.length≤1000000):Calls Tryz.prog 114 #[.string ⟨a.toArray⟩,.string ⟨b.toArray⟩] w fun e w'=>e=.returned (.bool (z10 a b))∧Below w.heap.size w w':=by
 have hsa:(⟨a.toArray⟩:ByteArray).size=a.length:=q19 a;have hsb:(⟨b.toArray⟩:ByteArray).size=b.length:=q19 b;have HSM:=fun c W=>Lib.hid (j211 c W);by_cases hll:a.length=b.length;rotate_left;·
  have hbb:((a.length:Int)!=(b.length:Int))=true:=by rw[bne_iff_ne];omega
  have HV:Hid (z10 a b=false):=by simp only[Hid];unfold z10;rw[beq_eq_false_iff_ne];intro e;have:=congrArg List.length e;simp only[List.length_map]at this;exact hll this
  clear hll;go_enter Tryz.func114,Tryz.ntmps114;go_wp2_with fail;go_ret;exact⟨by rw[HV.out];rfl,Below.refl _ _⟩
 have hbb:((a.length:Int)!=(b.length:Int))=false:=by rw[bne_eq_false_iff_eq];omega
 have HLL:=Lib.hid hll;clear hll;go_enter Tryz.func114,Tryz.ntmps114;go_wp2_with fail;clear hbb;go_loopw[5,13](fun _ i wr=>∃(k:Nat),k≤a.length∧i=.int .i64 (k:Int)∧(a.map lowC).take k=(b.map lowC).take k∧Below w.heap.size w wr)(fun _ i _=>a.length-(intOf i).toNat);case atStart=>exact⟨0,Nat.zero_le _,rfl,by simp,Below.refl _ _⟩
 case round=>
  obtain⟨k,hk,rfl,hin,hbw⟩:=hrel;have HI:=Lib.hid hin;have HB:=Lib.hid hbw;clear hin hbw;by_cases hlt:k<a.length;·
   have hlt':k<b.length:=by have:=HLL.out;omega
   have hka:k<(⟨a.toArray⟩:ByteArray).size:=by omega
   have hkb:k<(⟨b.toArray⟩:ByteArray).size:=by omega
   have HA:Hid ((⟨a.toArray⟩:ByteArray)[k]=a[k]):=rfl;have HA':Hid ((⟨b.toArray⟩:ByteArray)[k]=b[k]):=rfl;have ka:k<(a.map lowC).length:=by simpa using hlt
   have kb:k<(b.map lowC).length:=by simpa using hlt'
   have HS:Hid (lowC a[k]=lowC b[k]→(a.map lowC).take (k+1)=(b.map lowC).take (k+1)):=fun h=>y103 ka kb HI.out (by simpa using h);have HN:Hid (lowC a[k]≠lowC b[k]→z10 a b=false):=fun h=>by unfold z10;rw[beq_eq_false_iff_ne];exact k130 ka kb (by simpa using h)
   obtain⟨x,hx⟩:∃x,a[k]=x:=⟨_,rfl⟩;obtain⟨y,hy⟩:∃y,b[k]=y:=⟨_,rfl⟩;rw[hx]at HS HN HA;rw[hy]at HS HN HA';have gx:=HA.out;have gy:=HA'.out;have HX:=HSM x;have HY:=HSM y;clear hx hy HI ka kb HA HA';by_cases e1:lowC x=lowC y;·
    have HF:=Lib.hid (HS.out e1);have bb:(((lowC x).toNat:Int)!=((lowC y).toNat:Int))=false:=by rw[e1];simp
    clear HS HN e1;go_wp2_with fail;go_region_held3(fun _=>True)(exact trivial)(first|(go_at_call_of 177(Value.int .u8 (x.toNat:Int));refine(HX _).out.mono ?_;rintro e wx⟨rfl,rfl⟩)|(go_at_call_of 177(Value.int .u8 (y.toNat:Int));refine(HY _).out.mono ?_;rintro e wy⟨rfl,rfl⟩));all_goals
     go_wp2_with fail;go_roundw;case rel=>exact⟨k+1,by omega,by go_num,HF.out,by first|exact x15 HB.out|exact q15 HB.out _⟩
     case measure=>simp[intOf];omega
   ·have HF:=Lib.hid (HN.out e1);have bb:(((lowC x).toNat:Int)!=((lowC y).toNat:Int))=true:=by rw[bne_iff_ne];intro e;exact e1 (UInt8.toNat_inj.1 (by omega))
    clear HS HN e1;go_wp2_with fail;go_region_held3(fun _=>True)(exact trivial)(first|(go_at_call_of 177(Value.int .u8 (x.toNat:Int));refine(HX _).out.mono ?_;rintro e wx⟨rfl,rfl⟩)|(go_at_call_of 177(Value.int .u8 (y.toNat:Int));refine(HY _).out.mono ?_;rintro e wy⟨rfl,rfl⟩));all_goals go_wp2_with fail;go_ret;exact⟨by rw[HF.out];rfl,by first|exact x15 HB.out|exact q15 HB.out _⟩
  ·have hI:=HI.out;rw[List.take_of_length_le (by simp;omega),List.take_of_length_le (by have:=HLL.out;simp;omega)]at hI;have HV:Hid (z10 a b=true):=by simp only[Hid];unfold z10;rw[beq_iff_eq];exact hI
   clear hI HI;go_wp2_with fail;go_ret;exact⟨by rw[HV.out];rfl,HB.out⟩
theorem v211{L:List j36}{n:List UInt8}{k:Nat}(h:k<L.length):getF (L.drop k) n=if z10 L[k].1 n=true then some L[k].2 else getF (L.drop (k+1)) n:=by rw[List.drop_eq_getElem_cons h,getF]
def optT(o:Option (List UInt8)):Value:=.tuple #[.string ⟨(o.getD []).toArray⟩,.bool o.isSome]
def q189(L:List j36)(n:List UInt8)(w:World)(e:Ending)(w':World):Prop:=e=.returned (optT (getF L n))∧Below w.heap.size w w'
theorem get_ret{L:List j36}{n:List UInt8}{o:Option (List UInt8)}{w w':World}(h:getF L n=o)(hb:Below w.heap.size w w'):q189 L n w (.returned (optT o)) w':=⟨by rw[h],hb⟩
theorem x191(A:Option Addr)(c m:Nat)(L:List j36)(n:List UInt8)(w:World)(hm:m=L.length)(h:SpG w18 2 w A c L)(hl:L.length≤100000)(hn:n.length≤1000000)(hx:∀f∈L,f.1.length≤1000000):Calls Tryz.prog 68 #[.slice A m c,.string ⟨n.toArray⟩] w (q189 L n w):=by
 subst hm;have HH:=Lib.hid h;have HAL:=fun a(ha:a.length≤1000000)W=>Lib.hid (x199 a n W ha hn);have HX:=Lib.hid hx;have HR:Hid (∀o W,getF L n=o→Below w.heap.size w W→q189 L n w (.returned (optT o)) W):=fun o W ho hb=>get_ret ho hb;clear h hx;go_enter Tryz.func68,Tryz.ntmps68;go_wp2_with fail;go_loopw[7,10](fun _ i wr=>∃(k:Nat),k≤L.length∧i=.int .i64 (k:Int)∧getF (L.drop k) n=getF L n∧Below w.heap.size w wr)(fun _ i _=>L.length-(intOf i).toNat);case atStart=>exact⟨0,Nat.zero_le _,rfl,rfl,Below.refl _ _⟩
 case round=>
  obtain⟨k,hk,rfl,hs,hbw⟩:=hrel;have HB:=Lib.hid hbw;have HS:=Lib.hid hs;clear hbw hs;by_cases hlt:k<L.length;·
   obtain⟨b,off,e,hb,hc⟩:=(HH.out.below HB.out).at' k hlt;have c0:=hc 0 _ rfl;have c1:=hc 1 _ rfl;simp only[Nat.add_zero]at c0;have hp:=HX.out _ (List.getElem_mem hlt);have HF:Hid (getF L n=if z10 L[k].1 n=true then some L[k].2 else getF (L.drop (k+1)) n):=HS.out.symm.trans (v211 hlt);obtain⟨⟨x,v⟩,hxe⟩:∃p,L[k]=p:=⟨_,rfl⟩;rw[hxe]at c0 c1 hp HF;simp only at c0 c1 hp HF;have HA:=fun W=>HAL x hp W;clear hxe hc HS hp;rw[e];cases hlk:z10 x n with
    |false=>
     rw[hlk]at HA HF;have HF2:Hid (getF (L.drop (k+1)) n=getF L n):=by simp only[Hid];rw[HF.out];rfl
     clear HF;go_wp2_with(first|(go_at_call 114;refine(HA _).out.mono ?_;rintro e w1⟨rfl,hb1⟩));go_roundw;case rel=>exact⟨k+1,by omega,by go_num,HF2.out,q12 hb1 (q11 HB.out _)⟩
     case measure=>simp[intOf];omega
    |true=>
     rw[hlk]at HA HF;have HF2:Hid (getF L n=some v):=by simp only[Hid];rw[HF.out];rfl
     clear HF;go_wp2_with(first|(go_at_call 114;refine(HA _).out.mono ?_;rintro e w1⟨rfl,hb1⟩;have x0:=bc 1 (j3 hb1 (j17 rfl)) rfl;have xz:=q14 (j3 hb1 (j17 rfl))));go_ret2;exact HR.out (some v) _ HF2.out (q12 hb1 (q11 HB.out _))
  ·have HF:Hid (getF L n=none):=by simp only[Hid];rw[←HS.out,List.drop_eq_nil_of_le (by omega)];rfl
   go_wp2_with fail;go_ret2;exact HR.out none _ HF.out HB.out
theorem k200{w:World}{b i n m:Nat}{cs:Array Value}{T:TypeId}(h:w.heap[b]?=some (.cells cs T (n,m)))(hi:i<n):w.frozen? ⟨b,i,none⟩=false:=by unfold World.frozen?;simp only[h];simp;omega
def z16(l:List UInt8)(k:Nat)(z:Array Value):Array Value:=(((l.take k).map lowC++l.drop k).map fun c=>Value.int .u8 (c.toNat:Int)).toArray++z
theorem w215{l:List UInt8}{k:Nat}{z:Array Value}(h:k<l.length):(z16 l k z)[k]?=some (.int .u8 (l[k].toNat:Int)):=by unfold z16;rw[Array.getElem?_append_left (by simp;omega)];simp[List.getElem?_append_right,h,Nat.min_eq_left (Nat.le_of_lt h)]
theorem y199{l:List UInt8}{k:Nat}{z:Array Value}(h:k<l.length):z16 l k z=(((l.take k).map fun c=>Value.int .u8 ((lowC c).toNat:Int))++Value.int .u8 (l[k].toNat:Int)::(((l.drop (k+1)).map fun c=>Value.int .u8 (c.toNat:Int))++z.toList)).toArray:=by apply Array.ext';simp only[z16,Array.toList_append];rw[List.drop_eq_getElem_cons h];simp only[List.map_append,List.map_cons,List.map_map,List.append_assoc,List.cons_append,Function.comp_def]
theorem q196{l:List UInt8}{k:Nat}{z:Array Value}(h:k<l.length):z16 l (k+1) z=(((l.take k).map fun c=>Value.int .u8 ((lowC c).toNat:Int))++Value.int .u8 ((lowC l[k]).toNat:Int)::(((l.drop (k+1)).map fun c=>Value.int .u8 (c.toNat:Int))++z.toList)).toArray:=by apply Array.ext';simp only[z16,Array.toList_append];rw[List.take_succ_eq_append_getElem h];simp only[List.map_append,List.map_cons,List.map_nil,List.map_map,List.append_assoc,List.cons_append,List.nil_append,Function.comp_def]
theorem k211{l:List UInt8}{k:Nat}{z:Array Value}(h:k<l.length):(z16 l k z).setIfInBounds k (.int .u8 ((lowC l[k]).toNat:Int))=z16 l (k+1) z:=by
 rw[y199 h,q196 h];apply Array.ext';rw[Array.toList_setIfInBounds];simp only;rw[List.set_append_right _ _ (by simp;omega)];have:k-((l.take k).map fun c=>Value.int .u8 ((lowC c).toNat:Int)).length=0:=by simp;omega
 rw[this];rfl
theorem x207{l:List UInt8}{k:Nat}{z:Array Value}(h:k<l.length)(he:lowC l[k]=l[k]):z16 l k z=z16 l (k+1) z:=by rw[y199 h,q196 h,he]
theorem x211{l:List UInt8}{z:Array Value}{j:Nat}(h:j<(l.map lowC).length):(z16 l l.length z)[j]?=some (.int .u8 ((l.map lowC)[j].toNat:Int)):=by
 have hj:j<l.length:=by simpa using h
 unfold z16;rw[Array.getElem?_append_left (by simp;omega)];simp[hj]
theorem y207(s:ByteArray)(l:List UInt8)(hs:s=⟨l.toArray⟩)(n:Nat)(_:l.length≤n):∃z,bytesRow s n=z16 l 0 z:=by subst hs;refine⟨Array.replicate (n-(⟨l.toArray⟩:ByteArray).size) (.int .u8 0),?_⟩;unfold bytesRow z16;simp
def allF:List j36→List UInt8→List (List UInt8)|[],_=>[]|f::r,n=>if z10 f.1 n=true then f.2::allF r n else allF r n
theorem y41:∀(a b:List j36)(n:List UInt8),allF (a++b) n=allF a n++allF b n
 |[],_,_=>rfl
 |f::r,b,n=>by rw[List.cons_append,allF,allF,y41 r b n];split<;>rfl
theorem y211{L:List j36}{n:List UInt8}{k:Nat}(h:k<L.length):allF (L.take (k+1)) n=allF (L.take k) n++(if z10 L[k].1 n=true then[L[k].2]else[]):=by rw[List.take_succ_eq_append_getElem h,y41,allF];rfl
theorem w201:∀(L:List j36)(n:List UInt8),(allF L n).length≤L.length|[],_=>Nat.le_refl _|f::r,n=>by have:=w201 r n;rw[allF];split<;>simp only[List.length_cons]<;>omega
def OfPost(L:List j36)(n:List UInt8)(w:World)(e:Ending)(w':World):Prop:=∃A c m,m=(allF L n).length∧e=.returned (.slice A m c)∧OwnG 9 encT 1 w' w.heap.size A c (allF L n)∧Below w.heap.size w w'
def AnsP(r:ReqL)(m:MetaL)(o cs seed:Int)(a:AnsL):Prop:=if o=3 then a=⟨304,x21 m,[],0⟩else if o=4 then a=⟨412,x21 m,[],0⟩else if countB r m o cs=true then∃O,Folded 0 (resL m.hv r.L) O∧a=j24 m (O.map Prod.fst) seed else a=w42 m r.hd
theorem z95{r:ReqL}{m:MetaL}{o cs seed:Int}{w w':World}{e:Ending}(h:k43 r m o cs seed w e w'):∃a,AnsP r m o cs seed a∧j39 a w e w':=by
 unfold k43 at h;unfold AnsP;by_cases h3:o=3;·rw[if_pos h3]at h;exact⟨_,by rw[if_pos h3],h⟩
 ·rw[if_neg h3]at h;by_cases h4:o=4;·rw[if_pos h4]at h;exact⟨_,by rw[if_neg h3,if_pos h4],h⟩
  ·rw[if_neg h4]at h;by_cases hc:countB r m o cs=true;·rw[if_pos hc]at h;obtain⟨O,hO,h⟩:=h;exact⟨_,by rw[if_neg h3,if_neg h4,if_pos hc];exact⟨O,hO,rfl⟩,h⟩
   ·rw[if_neg hc]at h;exact⟨_,by rw[if_neg h3,if_neg h4,if_neg hc],h⟩
theorem j123(m:MetaL)(O:List (Int×Int))(seed:Int)(h:O.length≤70):(j24 m O seed).fs.length≤11∧(j24 m O seed).ps.length≤141:=by have hf:=y53 m;match O,h with|[],_=>exact⟨by simp only[j24,List.length_append,List.length_cons,List.length_nil];omega,by simp[j24]⟩|[s],_=>exact⟨by simp only[j24,List.length_append,List.length_cons,List.length_nil];omega,by simp[j24]⟩|s::t::r,h=>exact⟨by simp only[j24,List.length_append,List.length_cons,List.length_nil];omega,by simp only[j24,x65];omega⟩
theorem AnsP.len{r:ReqL}{m:MetaL}{o cs seed:Int}{a:AnsL}(h:AnsP r m o cs seed a)(hl:r.L.length≤70):a.fs.length≤1000∧a.ps.length≤1000:=by
 have hf:=y53 m;unfold AnsP at h;split at h;·subst h;exact⟨by simp only;omega,by simp⟩
 ·split at h;·subst h;exact⟨by simp only;omega,by simp⟩
  ·split at h;·
    obtain⟨O,hO,rfl⟩:=h;have h1:(O.map Prod.fst).length≤70:=by have h2:=hO.few;have h3:=w35 m.hv r.L;rw[List.length_map];omega
    have h4:=j123 m _ seed h1;omega
   ·subst h;refine⟨by simp only[w42];omega,?_⟩;simp only[w42];split<;>simp
theorem y139(m:MetaL)(O:List (Int×Int))(seed:Int):(j24 m O seed).st=416∧(j24 m O seed).ps=[]∧(j24 m O seed).sz=0∨(j24 m O seed).st=206:=by match O with|[]=>exact .inl ⟨rfl,rfl,rfl⟩|[s]=>exact .inr rfl|s::t::r=>exact .inr rfl
theorem AnsP.bare{r:ReqL}{m:MetaL}{o cs seed:Int}{a:AnsL}(h:AnsP r m o cs seed a):((a.st==304)=(o==3))∧((a.st==412)=(o==4))∧(a.st≠200→a.st≠206→a.ps=[]∧a.sz=0):=by
 unfold AnsP at h;split at h;·rename_i h3;subst h;subst h3;exact⟨rfl,rfl,fun _ _=>⟨rfl,rfl⟩⟩
 ·rename_i h3;have e3:(o==3)=false:=by rw[beq_eq_false_iff_ne];exact h3
  split at h;·rename_i h4;subst h;subst h4;exact⟨rfl,rfl,fun _ _=>⟨rfl,rfl⟩⟩
  ·rename_i h4;have e4:(o==4)=false:=by rw[beq_eq_false_iff_ne];exact h4
   rw[e3,e4];split at h;·
    obtain⟨O,hO,rfl⟩:=h;rcases y139 m (O.map Prod.fst) seed with⟨h1,h2,h3⟩|h1;·rw[h1];exact⟨rfl,rfl,fun _ _=>⟨h2,h3⟩⟩
    ·rw[h1];exact⟨rfl,rfl,fun _ h=>absurd rfl h⟩
   ·subst h;exact⟨rfl,rfl,fun h=>absurd rfl h⟩
theorem AnsP.head{r:ReqL}{m:MetaL}{o cs seed:Int}{a:AnsL}(hh:r.hd=true)(h:AnsP r m o cs seed a):a.ps=[]∧(o≤2→a.st=200∧a.sz=m.len):=by
 have hc:countB r m o cs=false:=by unfold countB;rw[hh];simp
 unfold AnsP at h;rw[hc,if_neg (by simp:¬false=true)]at h;split at h;·subst h;exact⟨rfl,fun _=>by omega⟩
 ·split at h;·subst h;exact⟨rfl,fun _=>by omega⟩
  ·subst h;exact⟨by simp[w42,hh],fun _=>⟨rfl,rfl⟩⟩
structure Mut(S:List Nat)(w w':World):Prop where
 os:w'.os=w.os
 tape:w'.tape=w.tape
 output:w'.output=w.output
 size:w.heap.size≤w'.heap.size
 blk:∀(k:Nat)(o:Obj),w.heap[k]?=some o→k∉S→w'.heap[k]?=some o
section
variable{S S':List Nat}{w w' w2:World}
theorem Mut.refl(S:List Nat)(w:World):Mut S w w:=⟨rfl,rfl,rfl,Nat.le_refl _,fun _ _ h _=>h⟩
theorem Mut.of_below(h:Below w.heap.size w w'):Mut S w w':=⟨h.os,h.tape,h.output,h.size,fun _ _ hk _=>j3 h hk⟩
theorem Mut.trans(h:Mut S w w')(h2:Mut S w' w2):Mut S w w2:=⟨h2.os.trans h.os,h2.tape.trans h.tape,h2.output.trans h.output,Nat.le_trans h.size h2.size,fun k o hk hn=>h2.blk k o (h.blk k o hk hn) hn⟩
theorem Mut.mono(h:Mut S w w')(hS:∀k∈S,k∈S'):Mut S' w w':=⟨h.os,h.tape,h.output,h.size,fun k o hk hn=>h.blk k o hk fun hin=>hn (hS k hin)⟩
theorem Mut.set{p:Addr}(h:p.block∈S)(v:Value)(hm:Mut S w w'):Mut S w (w'.setCell p v):=⟨hm.os,hm.tape,hm.output,by have:=hm.size;simp[World.setCell];omega,fun k o hk hn=>z11 (fun e=>hn (by rw[e];exact h)) (hm.blk k o hk hn)⟩
theorem Mut.alloc(hm:Mut S w w')(o:Obj):Mut S w (w'.alloc o):=hm.trans (.of_below (q11 (Below.refl _ _) o))
theorem Mut.drew(hm:Mut S w w'):Mut S w w'.drew:=hm.trans (.of_below (x15 (Below.refl _ _)))
theorem Mut.drewN(hm:Mut S w w')(n:Nat):Mut S w (w'.drewN n):=hm.trans (.of_below (q15 (Below.refl _ _) n))
theorem Mut.below{n:Nat}(hm:Mut S w w')(hn:∀k∈S,n≤k)(hsz:n≤w.heap.size):Below n w w':=⟨hm.os,hm.tape,hm.output,hm.size,fun k hk=>by
 have hlt:k<w.heap.size:=by omega
 have h1:w.heap[k]?=some w.heap[k]:=Array.getElem?_eq_getElem hlt;rw[h1];exact hm.blk k _ h1 fun hin=>by have:=hn k hin;omega⟩
end
theorem j192(A:Option Addr)(c m:Nat)(L:List j36)(n:List UInt8)(w:World)(hm:m=L.length)(h:SpG w18 2 w A c L)(hl:L.length≤100000)(hn:n.length≤1000000)(hx:∀f∈L,f.1.length≤1000000):Calls Tryz.prog 107 #[.slice A m c,.string ⟨n.toArray⟩] w (OfPost L n w):=by
 subst hm;have HH:=Lib.hid h;have HAL:=fun a(ha:a.length≤1000000)W=>Lib.hid (x199 a n W ha hn);have HX:=Lib.hid hx;clear h hx;go_enter Tryz.func107,Tryz.ntmps107;go_wp2_with fail;go_loopw[5,7,10](fun v _ i wr=>∃(k:Nat)(B:Option Addr)(d q:Nat),k≤L.length∧i=.int .i64 (k:Int)∧q=(allF (L.take k) n).length∧v=.slice B q d∧OwnG 9 encT 1 wr w.heap.size B d (allF (L.take k) n)∧Below w.heap.size w wr)(fun _ _ i _=>L.length-(intOf i).toNat);case atStart=>exact⟨0,none,0,0,Nat.zero_le _,rfl,rfl,rfl,OwnG.nil _ _,Below.refl _ _⟩
 case round=>
  obtain⟨k,B,d,q,hk,rfl,hq,rfl,hown,hbw⟩:=hrel;have HB:=Lib.hid hbw;have HO:=Lib.hid hown;have HQ:=Lib.hid hq;have hql:q≤100000:=by have:=w201 (L.take k) n;rw[List.length_take]at this;omega
  clear hbw hown hq;by_cases hlt:k<L.length;·
   obtain⟨b,off,e,hb,hc⟩:=(HH.out.below HB.out).at' k hlt;have c0:=hc 0 _ rfl;have c1:=hc 1 _ rfl;simp only[Nat.add_zero]at c0;have hp:=HX.out _ (List.getElem_mem hlt);have HS:=Lib.hid (y211 (n:=n) hlt);obtain⟨⟨x,v⟩,hxe⟩:∃p,L[k]=p:=⟨_,rfl⟩;rw[hxe]at c0 c1 hp HS;simp only at c0 c1 hp HS;have HA:=fun W=>HAL x hp W;clear hxe hc hp;rw[e];cases hlk:z10 x n with
    |false=>
     rw[hlk]at HA HS;have HF2:Hid (allF (L.take (k+1)) n=allF (L.take k) n):=by simp only[Hid];rw[HS.out];simp
     clear HS;go_wp2_with(first|(go_at_call 114;refine(HA _).out.mono ?_;rintro e w1⟨rfl,hb1⟩));go_roundw;case rel=>exact⟨k+1,B,d,q,by omega,by go_num,by rw[HF2.out];exact HQ.out,rfl,by rw[HF2.out];exact(HO.out.alloc _).below hb1,q12 hb1 (q11 HB.out _)⟩
     case measure=>simp[intOf];omega
    |true=>
     rw[hlk]at HA HS;have HF2:Hid (allF (L.take (k+1)) n=allF (L.take k) n++[v]):=by simp only[Hid];rw[HS.out];simp
     clear HS;obtain⟨G,hG⟩:∃G,allF (L.take k) n=G:=⟨_,rfl⟩;rw[hG]at HF2 HO HQ;clear hG;go_wp2_with(
      first
       |(at_builtin;refine x23 (w0:=w) elemT rfl (.tmp 18) (.tmp 21) rfl B d q G HQ.out #[.string ⟨v.toArray⟩] _ rfl HO1.out [v] 1 rfl rfl rfl Nat.zero_lt_one (q+1) rfl (by omega) HB1.out ?_;intro A2 c2 w2 hown2 hbw2 hg2)
       |(go_at_call 114;refine(HA _).out.mono ?_;rintro e w1⟨rfl,hb1⟩;have HO1:=Lib.hid ((HO.out.alloc _).below hb1);have HB1:=Lib.hid (q12 hb1 (q11 HB.out _));have x0:=bc 1 (j3 hb1 (j17 rfl)) rfl;have xz:=q14 (j3 hb1 (j17 rfl))));go_roundw;case rel=>exact⟨k+1,A2,c2,q+1,by omega,by go_num,by rw[HF2.out,List.length_append,HQ.out];rfl,rfl,by rw[HF2.out];exact hown2,hbw2⟩
     case measure=>simp[intOf];omega
  ·obtain rfl:k=L.length:=by omega
   rw[List.take_length]at HO HQ;go_wp2_with fail;go_ret;exact⟨B,d,q,HQ.out,rfl,HO.out,HB.out⟩
theorem AnsP.one{r:ReqL}{m:MetaL}{o cs seed:Int}{a b:AnsL}(hr:∀x∈resL m.hv r.L,x.1<x.2)(ha:AnsP r m o cs seed a)(hb:AnsP r m o cs seed b):a=b:=by
 unfold AnsP at ha hb;split at ha;·rename_i h3;rw[if_pos h3]at hb;exact ha.trans hb.symm
 ·rename_i h3;rw[if_neg h3]at hb;split at ha;·rename_i h4;rw[if_pos h4]at hb;exact ha.trans hb.symm
  ·rename_i h4;rw[if_neg h4]at hb;split at ha;·rename_i hc;rw[if_pos hc]at hb;obtain⟨O,hO,rfl⟩:=ha;obtain⟨O',hO',rfl⟩:=hb;have e:=hO.eq hr (by decide) hO';subst e;rfl
   ·rename_i hc;rw[if_neg hc]at hb;exact ha.trans hb.symm
end Go.Proofs.YtkkomffmnafjkaaGreatDoor
