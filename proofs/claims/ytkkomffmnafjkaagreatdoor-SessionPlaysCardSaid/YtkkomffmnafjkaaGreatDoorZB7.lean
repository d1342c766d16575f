/- Contract of the reference's of: the spans of the bytes for which an .. -/
import Derived.Test.YtkkomffmnafjkaaGreatDoorZB5
set_option maxHeartbeats 16000000
set_option maxRecDepth 100000
set_option linter.all false
namespace Go.Proofs.YtkkomffmnafjkaaGreatDoor
open Go.RowKit
theorem y179(A:Option Addr)(c:Nat)(L:List (Int×Int))(B:Option Addr)(d:Nat)(M:List (Int×Int))(op:Int)(w:World)(h:Sp w A c L)(h':Sp w B d M)(hl:L.length≤100000)(hl':M.length≤100000)(hop:op=1∨op=2∨op=3):Calls Tryz.prog 103 #[.slice A L.length c,.slice B M.length d,.int .i64 op] w (RetSp (ofOp L M op) w):=by
 have hE:=a_ (x171 A c L B d M w h h' hl hl');have hH:=a_ h;have hH':=a_ h';have hlen:=(x73 (L++M)).2.2;have hlen2:(x19 (L++M)).length≤400000:=by simp at hlen;omega
 clear h h' hlen;have HOF:Hid (ofOp L M op=ofTo (fun p=>opB op (inB L p) (inB M p)) (x19 (L++M)) ((x19 (L++M)).length-1)):=rfl;obtain⟨E,hEE⟩:∃E,x19 (L++M)=E:=⟨_,rfl⟩;rw[hEE]at hE hlen2 HOF;clear hEE;obtain⟨g,hg⟩:∃g,(fun p=>opB op (inB L p) (inB M p))=g:=⟨_,rfl⟩;rw[hg]at HOF;have HGF:Hid (∀p,g p=opB op (inB L p) (inB M p)):=by rw[←hg];exact fun _=>rfl
 clear hg;go_enter Tryz.func103,Tryz.ntmps103;go_wp2_with fail;refine hE.out.mono ?_;rintro e1 w1⟨Ae,ce,rfl,howne,hbe⟩;have HSE:=a_ howne;clear hE howne;go_wp2_with fail;go_loopw[7,9,10,11,12,13](fun v i _ _ _ _ wr=>∃(k:Nat)(A':Option Addr)(c':Nat),(k=0∨k+1≤E.length)∧i=.int .i64 k∧v=.slice A' (ofTo g E k).length c'∧Own wr w.heap.size A' c' (ofTo g E k)∧OwnI wr w.heap.size Ae ce E∧Below w.heap.size w wr)(fun _ i _ _ _ _ _=>E.length-(intOf i).toNat);case atStart=>exact⟨0,none,0,.inl rfl,rfl,rfl,Own.nil _ _,HSE.out,hbe⟩
 case round=>
  obtain⟨k,A',c',hk,rfl,rfl,hown,hspe,hbw⟩:=hrel;have HO:=a_ hown;have HS:=a_ hspe;have HK:=a_ hk;clear hown hspe HSE hk;have hkb:k≤400000:=by rcases HK.out with h|h<;>omega
  by_cases hlt:k+1<E.length;·
   obtain⟨b',e,hbase,hb⟩:=HS.out.at_ (show 0<E.length by omega);have hS1:=HS.out;rw[e]at hS1;have d1:=hS1.cell (show k<E.length by omega);have d2:=hS1.cell hlt;have HSS:=a_ hS1;have HA:=a_ e;have hol:=q82 g E k;have HST:Hid (ofTo g E (k+1)=w56 g (ofTo g E k) (E.getD k 0) (E.getD (k+1) 0)):=rfl;have hu:=getD_at (show k<E.length by omega);have hv:=getD_at hlt;rw[hu,hv]at HST;obtain⟨u,hu'⟩:∃u,E[k]=u:=⟨_,rfl⟩;obtain⟨v,hv'⟩:∃v,E[k+1]=v:=⟨_,rfl⟩;rw[hu',hv']at HST;have HU:=a_ hu';have HV:=a_ hv';have HKE:Hid (k<E.length):=(by omega:k<E.length);have HKE1:Hid (k+1<E.length):=hlt;rw[hu']at d1;rw[hv']at d2;clear hu hv hu' hv' hS1 HS;obtain⟨out,hout⟩:∃out,ofTo g E k=out:=⟨_,rfl⟩;have HO1:=HO.out;rw[hout]at HO1 HST hol⊢;have HOO:=a_ HO1;have HGU:=a_ (HGF.out u);clear hout HO1 HO;have hk0:(0:Int)≤(k:Int):=by omega
   have hk1:(k:Int)<(E.length:Int):=by omega
   have tok:True:=trivial;rw[e];clear e;go_wp2_with fail;go_region_held3(fun w'=>w'.cell? ⟨b',k,none⟩=some (.int .i64 u))(first|exact f2|exact f1|exact d1)(first
    |(go_at_call 97;have _t:=tok;refine(j152 A c L u _ (by exact hH.out.below (x15 hbw)) (by omega)).mono ?_;rintro r4 w4⟨rfl,hbw4⟩;have f1:=x16 hbw4 (show wr.drew.cell? _=_ from d1);have g1:=x16 hbw4 (show wr.drew.cell? _=_ from d2);have hb4:=q12 hbw4 (x15 hbw);clear tok)
    |(go_at_call 97;refine(j152 B d M u _ (by exact hH'.out.below hb4) (by omega)).mono ?_;rintro r5 w5⟨rfl,hbw5⟩;have f2:=x16 hbw5 f1;have g2:=x16 hbw5 g1;have hb5:=q12 hbw5 hb4));have HS5:=a_ ((HSS.out.below (x15 (b_ _ _))).below (q12 hbw5 hbw4));have HO5:=a_ ((HOO.out.below (x15 (b_ _ _))).below (q12 hbw5 hbw4));have hbz:b'<w5.heap.size:=aI_ w5 ⟨b',k,none⟩ f2;clear f1 g1 hb4 hbw4 hbw5 d1 d2 hbw HSS HOO hb;generalize inB L u=X at*;generalize inB M u=Y at*;go_upto_region 7 with fail;go_cut[12](fun s12 wx=>s12=.bool (g u)∧w5=wx);case first=>
    rcases hop with rfl|rfl|rfl<;>cases X<;>cases Y;all_goals go_wp2_with fail;go_meet;exact⟨by rw[HGU.out];rfl,rfl⟩
   case rest=>
    obtain⟨rfl,rfl⟩:=hcut;cases hgu:g u;·
     have HR:=a_ (HST.out.trans (q112 hgu));clear hgu HST HGU;go_wp2_with fail;go_roundw;case rel=>exact⟨k+1,A',c',.inr (by omega),by go_num,by rw[HR.out],by rw[HR.out];exact HO5.out,HS5.out,hb5⟩
     case measure=>simp[intOf];omega
    ·rcases w41 out with rfl|⟨i,l,rfl⟩;·
      have HNE:=a_ (own_ne HO5.out HS5.out);have HR:=a_ (HST.out.trans (w101 hgu));clear hgu HST HGU;go_wp2_with fail;go_quiet(fail);have hk2:(0:Int)≤(k:Int)+1:=by omega
      have hk3:(k:Int)+1<(E.length:Int):=by omega
      have hk4:IntKind.i64.wrap ((k:Int)+1)=(k:Int)+1:=M_ _ (by omega);have hk5:((k:Int)+1).toNat=k+1:=by omega
      go_wp2_with fail;go_region_held3(fun w'=>w'.cell? ⟨b',k,none⟩=some (.int .i64 u)∧w'.cell? ⟨b',k+1,none⟩=some (.int .i64 v))(first|exact⟨q1,q2⟩|(refine⟨x16 (W:=w5) ?_ f2,x16 (W:=w5) ?_ g2⟩<;>(repeat(first|exact b_ _ _|refine q15 ?_ _|refine x15 ?_|refine q11 ?_ _|refine w14 ?_ (by simp) _))))(first|(refine k144 rfl (.tmp 93) (.tmp 104) rfl A' c' [] rfl (by exact((HO5.out.drewN _).drew).alloc _) _ u v rfl (by exact k31 _ _ _ _) (by exact w31 _ _ _ _) (by simp) (by(repeat(first|exact b_ _ _|exact hb5|refine q15 ?_ _|refine x15 ?_|refine q11 ?_ _))) ?_;intro A7 c7 w7 hown7 hbw7 hgr7;have HS7:Hid (OwnI w7 w.heap.size (some ⟨b',0,none⟩) ce E):=(by exact OwnI.kept (by exact((HS5.out.drewN _).drew).alloc _) hgr7 HNE.out);have q1:w7.cell? ⟨b',k,none⟩=some (.int .i64 u):=(by rw[HS7.out.cell HKE.out,HU.out]);have q2:w7.cell? ⟨b',k+1,none⟩=some (.int .i64 v):=(by rw[HS7.out.cell HKE1.out,HV.out]);have HO7:=a_ hown7;clear hown7 hgr7));clear hk4 hk5;go_wp2_with fail;go_roundw;case rel=>exact⟨k+1,A7,c7,.inr (by omega),by go_num,by rw[HR.out];rfl,by rw[HR.out];exact HO7.out,HS7.out,hbw7⟩
      case measure=>simp[intOf];omega
     ·have el:(i++[l]).length=i.length+1:=by simp
      have hO5:=HO5.out;obtain⟨gO,hgA,hg1,hg2⟩:=hO5.at_ (by omega);rw[hgA]at hO5;have hO5':w5.ownsRow w.heap.size 59 2 (.slice (some ⟨gO,0,none⟩) (i.length+1) c') (i.length+1) (j22 (i++[l])):=by have:=hO5;unfold Own at this;rw[el]at this;exact this
      have cl:=(w44 (i++[l]) i.length l (by simp)).2;have o2:w5.cell? ⟨gO,i.length*2+1,none⟩=some (.int .i64 l.2):=by rw[hO5'.cellAt _ (by omega),←cl,bh_]
      have fo2:=hO5'.frozenAt (i.length*2+1);have HNE:=a_ (own_ne HO5.out HS5.out);have hne:gO≠b':=by intro e;apply HNE.out;rw[hgA,e];rfl
      have HO6:=a_ hO5;rw[hgA,el];rw[el]at hol;clear hO5 hO5' cl HO5;obtain⟨l1,l2⟩:=l;simp only at o2;by_cases hj:l2=u;·
       have HR:=a_ (HST.out.trans (k93 hgu hj));have hjb:(l2==u)=true:=by simpa using hj
       clear hgu HST HGU hj el;go_wp2_with fail;go_quiet(fail);go_wp2_with fail;go_roundw;case rel=>
        refine⟨k+1,some ⟨gO,0,none⟩,c',.inr (by omega),by go_num,?_,?_,?_,?_⟩;·rw[HR.out];simp
        ·rw[HR.out];exact Own.setTo _ (HO6.out.drewN _)
        ·exact(HS5.out.drewN _).set hne _
        ·exact w14 (q15 hb5 _) hg1 _
       case measure=>simp[intOf];omega
      ·have HR:=a_ (HST.out.trans (z102 hgu hj));have hjb:(l2==u)=false:=by simpa using hj
       have hil:(i++[(l1,l2)]).length≤2000000:=by rw[el];omega
       have HEL:=a_ el;clear hgu HST HGU hj el;go_wp2_with fail;go_quiet(fail);have hk2:(0:Int)≤(k:Int)+1:=by omega
       have hk3:(k:Int)+1<(E.length:Int):=by omega
       have hk4:IntKind.i64.wrap ((k:Int)+1)=(k:Int)+1:=M_ _ (by omega);have hk5:((k:Int)+1).toNat=k+1:=by omega
       go_wp2_with fail;go_region_held3(fun w'=>w'.cell? ⟨b',k,none⟩=some (.int .i64 u)∧w'.cell? ⟨b',k+1,none⟩=some (.int .i64 v))(first|exact⟨q1,q2⟩|(refine⟨x16 (W:=w5) ?_ f2,x16 (W:=w5) ?_ g2⟩<;>(repeat(first|exact b_ _ _|refine q15 ?_ _|refine x15 ?_|refine q11 ?_ _|refine w14 ?_ (by simp) _))))(first|(refine k144 rfl (.tmp 93) (.tmp 104) rfl (some ⟨gO,0,none⟩) c' (i++[(l1,l2)]) (by rw[HEL.out];rfl) (by exact((HO6.out.drewN _).drew).alloc _) _ u v rfl (by exact k31 _ _ _ _) (by exact w31 _ _ _ _) hil (by(repeat(first|exact b_ _ _|exact hb5|refine q15 ?_ _|refine x15 ?_|refine q11 ?_ _))) ?_;intro A7 c7 w7 hown7 hbw7 hgr7;have HS7:Hid (OwnI w7 w.heap.size (some ⟨b',0,none⟩) ce E):=(by exact OwnI.kept (by exact((HS5.out.drewN _).drew).alloc _) hgr7 (fun e=>hne (by injection e)));have q1:w7.cell? ⟨b',k,none⟩=some (.int .i64 u):=(by rw[HS7.out.cell HKE.out,HU.out]);have q2:w7.cell? ⟨b',k+1,none⟩=some (.int .i64 v):=(by rw[HS7.out.cell HKE1.out,HV.out]);have HO7:=a_ hown7;clear hown7 hgr7));clear hk4 hk5;go_wp2_with fail;go_roundw;case rel=>exact⟨k+1,A7,c7,.inr (by omega),by go_num,by rw[HR.out];simp,by rw[HR.out];exact HO7.out,HS7.out,hbw7⟩
       case measure=>simp[intOf];omega
  ·go_wp2_with fail;go_ret;have hkk:k=E.length-1:=by rcases HK.out with h|h<;>omega
   refine⟨A',c',?_,?_,hbw⟩;·rw[HOF.out,←hkk];rfl
   ·rw[HOF.out,←hkk];exact HO.out
