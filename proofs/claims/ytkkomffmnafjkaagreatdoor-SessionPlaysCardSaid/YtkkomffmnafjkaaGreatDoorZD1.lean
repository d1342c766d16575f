/- Contract of a set's Or. Contract of a set's Less. -/
import Derived.Test.YtkkomffmnafjkaaGreatDoorZB4
set_option maxHeartbeats 16000000
set_option maxRecDepth 100000
set_option linter.all false
namespace Go.Proofs.YtkkomffmnafjkaaGreatDoor
open Go.RowKit
theorem y176{W:World}{n:Nat}(h:n<W.heap.size)(o:Obj):n<(W.alloc o).heap.size:=by simp;omega
def OffB(A:Option Addr)(X:Nat):Prop:=∀a,A=some a→a.block≠X
theorem j170{w0 w:World}{ops:Array Oper}{rest:List Oper}{o:Oper}{a:Act}{Q:Exit→Act→World→Prop}(hgd:o.guard=none)(s x:Operand)(ho:o.op=.call {callee:=.builtin .append,args:=#[s,x],argTypes:=#[48,48]})(A:Option Addr)(c:Nat)(L:List (Int×Int))(hs:a.eval s=.slice A L.length c)(hown:Own w w0.heap.size A c L)(g:Nat)(x1 x2:Int)(hx:a.eval x=.slice (some ⟨g,0,none⟩) 1 1)(hc:w.cell? ⟨g,0,none⟩=some (.int .i64 x1))(hc':w.cell? ⟨g,1,none⟩=some (.int .i64 x2))(hl:L.length≤2000000)(hbel:Below w0.heap.size w0 w)(X:Nat)(hX:OffB A X)(hXl:X<w.heap.size)(h:∀A' c' w',Own w' w0.heap.size A' c' (L++[(x1,x2)])→Below w0.heap.size w0 w'→OffB A' X→(∀o,w'.cell? ⟨X,o,none⟩=w.cell? ⟨X,o,none⟩)→X<w'.heap.size→wpList Tryz.prog ops Q rest (a.put o.dst (.slice A' (L.length+1) c')) w'):wpList Tryz.prog ops Q (o::rest) a w:=by
 obtain⟨i0,hi,hz0,hz1,hz2⟩:=aT_ Tryz.spanInfo;refine wpList_append_own_at w hgd s x _ ho w0.heap.size 59 i0 _ 2 16 bS_ hi hz0 hz1 hz2 rfl (by decide) _ _ _ hs hown ⟨g,0,none⟩ 1 1 [.int .i64 x1,.int .i64 x2] hx rfl ?_ ?_ (by simp only[maxLen];omega) (by omega) hbel.size ?_;·
  intro j u hj;have hadd:∀j,(⟨g,0,none⟩:Addr).add j=⟨g,j,none⟩:=fun j=>by unfold Addr.add;split<;>simp_all
  rw[hadd];match j,hj with|0,hj=>simp at hj;rw[←hj];exact hc|1,hj=>simp at hj;rw[←hj];exact hc'|j+2,hj=>simp at hj
 ·intro u hu;simp at hu;rcases hu with rfl|rfl<;>rfl
 ·intro v' w' h1 h2 _ h4;have hlt:=al_ hown;have hbel':Below w0.heap.size w0 w':=hbel.grown h2 hbel.size (fun k hk=>(hlt k hk).1);have hlen:(L++[(x1,x2)]).length=L.length+1:=by simp
  have hsp:j22 L++[.int .i64 x1,.int .i64 x2]=j22 (L++[(x1,x2)]):=by rw[k42];rfl
  rw[hsp]at h1;have hform:∃A' c',v'=.slice A' (L.length+1) c':=by
   rcases h1.2 with⟨_,hn⟩|⟨g',cap,cur,hv,_⟩;·omega
   ·exact⟨_,_,hv⟩
  obtain⟨A',c',rfl⟩:=hform;have hne:(Value.slice A L.length c).ownBlock≠some X:=by cases A with|none=>intro e;cases e|some a=>intro e;injection e with e;exact hX a rfl e
  refine h A' c' w' (by unfold Own;rw[hlen];exact h1) hbel' ?_ ?_ ?_;·
   intro a' ha' e;subst ha';have e1:(Value.slice (some a') (L.length+1) c').ownBlock=some a'.block:=rfl;rw[e1,e]at h4;rcases h4 with h4|h4;·exact hne h4.symm
   ·injection h4 with h4;omega
  ·intro o;have:=h2.block X hXl (fun e=>hne e.symm);unfold World.cell?;rw[this]
  ·have:=h2.size;omega
section
variable{L M T done:List (Int×Int)}{i j:Nat}{x y:Int×Int}
end
structure Boxes(w W0:World)(A:Option Addr)(c:Nat)(L:List (Int×Int))(B:Option Addr)(d:Nat)(M:List (Int×Int)):Prop where
 size:W0.heap.size=w.heap.size+3
 bel:Below w.heap.size w W0
 c0:W0.cell? ⟨w.heap.size,0,none⟩=some (.slice A L.length c)
 c1:W0.cell? ⟨w.heap.size+1,0,none⟩=some (.slice B M.length d)
 c2:W0.cell? ⟨w.heap.size+2,0,none⟩=some (.slice none 0 0)
 f2:W0.frozen? ⟨w.heap.size+2,0,none⟩=false
theorem boxes(w:World)(A:Option Addr)(c:Nat)(L:List (Int×Int))(B:Option Addr)(d:Nat)(M:List (Int×Int)):Boxes w (((w.alloc (.cells #[.slice A L.length c] 93)).alloc (.cells #[.slice B M.length d] 93)).alloc (.cells #[.slice none 0 0] 93)) A c L B d M:=⟨by simp,by(repeat(first|exact b_ _ _|refine q15 ?_ _|refine x15 ?_|refine q11 ?_ _|refine w14 ?_ (by simp) _)),by simp[go_sem],by simp[go_sem],by simp[go_sem],by simp[go_sem]⟩
section
variable{L M T R done:List (Int×Int)}{i j k:Nat}{x y:Int×Int}{t f:Int}
theorem x184(hi:i<L.length)(hx:L[i]=x)(hs:q169 x.1 (M.drop j)=M.drop k)(he:done++w169 (L.drop i) (M.drop j)=T):done++(cutL x.2 x.1 (M.drop k)++w169 (L.drop (i+1)) (M.drop k))=T:=by rw[drop_at hi,hx,j174,hs]at he;exact he
theorem le_end(hi:¬i<L.length)(he:done++w169 (L.drop i) (M.drop j)=T):done=T:=by rw[q173 hi,q176]at he;simpa using he
theorem y184(hk:k<M.length)(hy:M[k]=y)(h:y.1<t)(he:done++(cutL t f (M.drop k)++R)=T):(done++v169 f y.1)++(cutL t (max f y.2) (M.drop (k+1))++R)=T:=by rw[drop_at hk,hy,w179 h]at he;rw[←he];simp
theorem cut_end(h:∀hk:k<M.length,¬(M[k]).1<t)(he:done++(cutL t f (M.drop k)++R)=T):(done++v169 f t)++R=T:=by
 by_cases hk:k<M.length;·rw[drop_at hk,w177 (h hk)]at he;rw[←he];simp
 ·rw[q173 hk,y177]at he;rw[←he];simp
theorem w181(hj:j<M.length)(hy:M[j]=y)(h:y.2≤f):q169 f (M.drop (j+1))=q169 f (M.drop j):=by rw[drop_at hj,hy,z176 h]
theorem w184(h:∀hj:j<M.length,¬(M[j]).2≤f):q169 f (M.drop j)=M.drop j:=by
 by_cases hj:j<M.length;·rw[drop_at hj,q178 (h hj)]
 ·rw[q173 hj,q183]
end
theorem j175{f t:Int}(h:f<t):v169 f t=[(f,t)]:=w_ h
theorem w176{f t:Int}(h:¬f<t):v169 f t=[]:=q_ h
theorem Own.offNew{w:World}{base:Nat}{A:Option Addr}{c:Nat}{L:List (Int×Int)}(h:Own w base A c L):OffB A w.heap.size:=by intro a ha;subst ha;have:=(al_ h a.block rfl).2;omega
theorem z177(A:Option Addr)(c:Nat)(L:List (Int×Int))(B:Option Addr)(d:Nat)(M:List (Int×Int))(w:World)(h:Sp w A c L)(h':Sp w B d M)(hc:Canon L)(hc':Canon M)(hl:L.length≤100000)(hl':M.length≤100000):Calls Tryz.prog 280 #[.agg #[.slice A L.length c],.agg #[.slice B M.length d]] w (q171 (ofOp L M 3) w):=by
 have HOR:=a_ (less_eq hc hc');have HLN:Hid ((w169 L M).length≤2*(L.length+M.length)):=by simp only[Hid];rw[HOR.out];exact j121 L M 3
 have HBX:=a_ (boxes w A c L B d M);have hH:=a_ h;have hH':=a_ h';have HC:=a_ hc;have HC':=a_ hc';clear h h' hc hc';go_enter Tryz.func280,Tryz.ntmps280;go_wp2;generalize World.alloc (World.alloc (World.alloc w (.cells #[.slice A L.length c] 93)) (.cells #[.slice B M.length d] 93)) (.cells #[.slice none 0 0] 93)=W0 at HBX⊢;have HS:=a_ (hH.out.below HBX.out.bel);have HS':=a_ (hH'.out.below HBX.out.bel);clear hH hH';go_loopw[5,6,8,9,10,14](fun v sj _ _ _ si wr=>∃(i j:Nat)(A':Option Addr)(c':Nat)(D:List (Int×Int)),i≤L.length∧j≤M.length∧si=.int .i64 i∧sj=.int .i64 j∧v=.slice A' D.length c'∧Own wr W0.heap.size A' c' D∧Below W0.heap.size W0 wr∧D++w169 (L.drop i) (M.drop j)=w169 L M)(fun _ _ _ _ _ si _=>L.length-(intOf si).toNat);case atStart=>exact⟨0,0,none,0,[],v_ _,v_ _,rfl,rfl,rfl,Own.nil _ _,b_ _ _,by simp⟩
 case round=>
  obtain⟨i,j,A',c',D,hi,hj,rfl,rfl,rfl,hown,hbw,he⟩:=hrel;obtain⟨wo,rfl⟩:∃wo:World,wo=wr:=⟨_,rfl⟩;have HO:=a_ hown;have HB:=a_ hbw;have HE:=a_ he;clear hown hbw he;by_cases hlt:i<L.length;·
   obtain⟨b,off,e,hb,d1,d2⟩:=HS.out.at_ hlt;have hgx:=HC.out.mem (y_ hlt);obtain⟨⟨x1,x2⟩,hx⟩:∃x,L[i]=x:=⟨_,rfl⟩;rw[hx]at d1 d2 hgx;have HX:=a_ hx;simp only at d1 d2 hgx;obtain⟨hgx0,hgx1,hgx2⟩:=hgx;clear hx;subst e;have c1:=x16 HB.out d1;have c2:=x16 HB.out d2;clear d1 d2;go_wp2_with fail;obtain⟨W1,hW1⟩:∃W1,World.alloc wo (.cells #[.int .i64 x1,.int .i64 x2] 59)=W1:=⟨_,rfl⟩;rw[hW1];have HO1:Hid (Own W1 W0.heap.size A' c' D):=by rw[←hW1];exact HO.out.alloc _
   have HB1:Hid (Below W0.heap.size W0 W1):=by rw[←hW1];exact q11 HB.out _
   have HF1:Hid (OffB A' wo.heap.size):=HO.out.offNew;have hz1:wo.heap.size<W1.heap.size:=by rw[←hW1];simp
   have k0:W1.cell? ⟨wo.heap.size,0,none⟩=some (.int .i64 x1):=by rw[←hW1];simp[go_sem]
   have k1:W1.cell? ⟨wo.heap.size,1,none⟩=some (.int .i64 x2):=by rw[←hW1];simp[go_sem]
   have q1:=x16 HB1.out HBX.out.c1;clear hW1 c1 c2 HO HB hb;go_loop[6](fun sj=>∃j2:Nat,j2≤M.length∧sj=.int .i64 j2∧q169 x1 (M.drop j2)=q169 x1 (M.drop j))(fun sj=>M.length-(intOf sj).toNat);case atStart=>exact⟨j,hj,rfl,rfl⟩
   case round=>
    obtain⟨j2,hj2,rfl,hsk⟩:=hrel;have HSK:=a_ hsk;clear hsk;by_cases hgo:∃hm:j2<M.length,(M[j2]).2≤x1;·
     obtain⟨hm,hle⟩:=hgo;obtain⟨b',off',e',hb',d1',d2'⟩:=HS'.out.at_ hm;obtain⟨⟨y1,y2⟩,hy⟩:∃y,M[j2]=y:=⟨_,rfl⟩;rw[hy]at d1' d2' hle;have HST:=a_ (w181 hm hy hle);simp only at d2' hle;have hm0:(0:Int)≤(j2:Int):=by omega
     have hm1:(j2:Int)<(M.length:Int):=by omega
     clear hy;first|subst e'|(injection e' with e';injection e' with e1 e2 _;subst e1;subst e2)
     have p2:=x16 HB1.out d2';clear d1' d2';go_wp2_with fail;go_round;case rel=>exact⟨j2+1,by omega,by go_num,HST.out.trans HSK.out⟩
     case measure=>simp[intOf];omega
    ·have HJ:=a_ (w184 (M:=M) (j:=j2) (f:=x1) (fun hm hle=>hgo ⟨hm,hle⟩));have HR0:=a_ (x184 hlt HX.out (HSK.out.symm.trans HJ.out) HE.out);simp only at HR0;have HNO:Hid (∀hm:j2<M.length,¬(M[j2]).2≤x1):=fun hm hle=>hgo ⟨hm,hle⟩;clear hgo;by_cases hm:j2<M.length;focus
      obtain⟨b',off',e',hb',d1',d2'⟩:=HS'.out.at_ hm;have hno:=HNO.out hm;obtain⟨⟨y1,y2⟩,hy⟩:∃y,M[j2]=y:=⟨_,rfl⟩;rw[hy]at d1' d2' hno;simp only at d2' hno;have hnob:decide (y2≤x1)=false:=by simpa using hno
      have hm0:(0:Int)≤(j2:Int):=by omega
      have hm1:(j2:Int)<(M.length:Int):=by omega
      clear hy;first|subst e'|(injection e' with e';injection e' with e1 e2 _;subst e1;subst e2)
      have p2:=x16 HB1.out d2';clear d1' d2';go_wp2_with fail;clear p2 hnob hno hb'
     rotate_left;focus
      have hmb:decide (j2<M.length)=false:=by simpa using hm
      go_wp2_with fail;clear hmb
     all_goals
      clear HNO HSK HJ hm;go_loopw[5,9,10](fun v sf sk wr=>∃(k:Nat)(f:Int)(A3:Option Addr)(c3:Nat)(D3:List (Int×Int)),k≤M.length∧sf=.int .i64 f∧sk=.int .i64 k∧x1≤f∧f≤4611686018427387904∧v=.slice A3 D3.length c3∧Own wr W0.heap.size A3 c3 D3∧OffB A3 wo.heap.size∧Below W0.heap.size W0 wr∧wr.cell? ⟨wo.heap.size,1,none⟩=some (.int .i64 x2)∧wo.heap.size<wr.heap.size∧D3++(cutL x2 f (M.drop k)++w169 (L.drop (i+1)) (M.drop j2))=w169 L M)(fun _ _ sk _=>M.length-(intOf sk).toNat);case atStart=>exact⟨j2,x1,A',c',D,hj2,rfl,rfl,ao_ _,by omega,rfl,HO1.out,HF1.out,HB1.out,k1,hz1,HR0.out⟩
      case round=>
       obtain⟨k,f,A3,c3,D3,hk,rfl,rfl,hf0,hf1,rfl,hown,hoff,hbw,x2c,hzr,he3⟩:=hrel;clear k0 k1 q1;have HO3:=a_ hown;have HB3:=a_ hbw;have HE3:=a_ he3;have HF3:=a_ hoff;have hDl:D3.length≤400000:=by have h1:=congrArg List.length he3;have h2:=HLN.out;simp at h1;omega
       have q1:=x16 hbw HBX.out.c1;clear hown hbw he3 hoff;by_cases hgo:∃hm:k<M.length,(M[k]).1<x2;·
        obtain⟨hm,hyt⟩:=hgo;obtain⟨b',off',e',hb',d1',d2'⟩:=HS'.out.at_ hm;have hgy:=HC'.out.mem (y_ hm);obtain⟨⟨y1,y2⟩,hy⟩:∃y,M[k]=y:=⟨_,rfl⟩;rw[hy]at d1' d2' hyt hgy;have HST:=a_ (y184 hm hy hyt HE3.out);simp only at d1' d2' hyt hgy HST;obtain⟨hgy0,hgy1,hgy2⟩:=hgy;have hm0:(0:Int)≤(k:Int):=by omega
        have hm1:(k:Int)<(M.length:Int):=by omega
        clear hy;first|subst e'|(injection e' with e';injection e' with e1 e2 _;subst e1;subst e2)
        have p1:=x16 HB3.out d1';have p2:=x16 HB3.out d2';have D1':=a_ d1';have D2':=a_ d2';clear d1' d2';by_cases hfy:f<y1;·
         have hfy2:f<y2:=by omega
         have HPC:=a_ (j175 hfy);have hmx:max f y2=y2:=by omega
         rw[hmx,HPC.out]at HST;clear hmx;go_wp2_with fail;go_quiet(fail);go_wp2_with(at_builtin;refine j170 (w0:=W0) rfl (.tmp 64) (.tmp 73) rfl A3 c3 D3 rfl (by exact(HO3.out.drewN _).alloc _) _ f y1 rfl (by first|exact k31 _ _ _ _|simp[go_sem]) (by first|exact w31 _ _ _ _|simp[go_sem]) (by omega) (by exact q11 (q15 HB3.out _) _) wo.heap.size HF3.out (by exact y176 hzr _) ?_;intro A4 c4 w4 hown4 hbw4 hoff4 hX4 hsz4;have r1:=x16 hbw4 HBX.out.c1;have r2:=x16 hbw4 D2'.out;have HX4:=a_ hX4;have HO4:=a_ hown4;have HB4:=a_ hbw4;have HF4:=a_ hoff4;clear hown4 hbw4 hoff4 hX4);go_roundw;case rel=>exact⟨k+1,y2,A4,c4,D3++[(f,y1)],by omega,rfl,by go_num,by omega,by omega,by simp,HO4.out,HF4.out,HB4.out,(HX4.out 1).trans (x16 (W:=wr) (by(repeat(first|exact b_ _ _|refine q15 ?_ _|refine x15 ?_|refine q11 ?_ _|refine w14 ?_ (by simp) _))) x2c),hsz4,HST.out⟩
         case measure=>simp[intOf];omega
        ·have HPC:=a_ (w176 hfy);rw[HPC.out,T_]at HST;by_cases hfy2:f<y2;·
          have hmx:max f y2=y2:=by omega
          rw[hmx]at HST;clear hmx;go_wp2_with fail;go_quiet(fail);go_wp2_with fail;go_roundw;case rel=>exact⟨k+1,y2,A3,c3,D3,by omega,rfl,by go_num,by omega,by omega,rfl,HO3.out.drewN _,HF3.out,q15 HB3.out _,x2c,hzr,HST.out⟩
          case measure=>simp[intOf];omega
         ·have hmx:max f y2=f:=by omega
          rw[hmx]at HST;clear hmx;go_wp2_with fail;go_quiet(fail);go_wp2_with fail;go_roundw;case rel=>exact⟨k+1,f,A3,c3,D3,by omega,rfl,by go_num,by omega,by omega,rfl,HO3.out.drewN _,HF3.out,q15 HB3.out _,x2c,hzr,HST.out⟩
          case measure=>simp[intOf];omega
       ·have HCE:=a_ (cut_end (fun hm hyt=>hgo ⟨hm,hyt⟩) HE3.out);have HNO:Hid (∀hm:k<M.length,¬(M[k]).1<x2):=fun hm hle=>hgo ⟨hm,hle⟩;clear hgo;by_cases hm:k<M.length;focus
         obtain⟨b',off',e',hb',d1',d2'⟩:=HS'.out.at_ hm;have hno:=HNO.out hm;obtain⟨⟨y1,y2⟩,hy⟩:∃y,M[k]=y:=⟨_,rfl⟩;rw[hy]at d1' d2' hno;simp only at d1' hno;have hnob:decide (y1<x2)=false:=by simpa using hno
         have hm0:(0:Int)≤(k:Int):=by omega
         have hm1:(k:Int)<(M.length:Int):=by omega
         clear hy;first|subst e'|(injection e' with e';injection e' with e1 e2 _;subst e1;subst e2)
         have p1:=x16 HB3.out d1';clear d1' d2';go_wp2_with fail;go_quiet(fail)
        rotate_left;focus
         have hmb:decide (k<M.length)=false:=by simpa using hm
         go_wp2_with fail;go_quiet(fail)
        all_goals
         by_cases hfx:f<x2;·
          have HPC:=a_ (j175 hfx);rw[HPC.out]at HCE;go_wp2_with(at_builtin;refine j170 (w0:=W0) rfl (.tmp 87) (.tmp 92) rfl A3 c3 D3 rfl (by exact(HO3.out.drewN _).alloc _) _ f x2 rfl (by first|exact k31 _ _ _ _|simp[go_sem]) (by first|exact w31 _ _ _ _|simp[go_sem]) (by omega) (by exact q11 (q15 HB3.out _) _) wo.heap.size HF3.out (by exact y176 hzr _) ?_;intro A4 c4 w4 hown4 hbw4 _ _ _;have HO4:=a_ hown4;have HB4:=a_ hbw4;clear hown4 hbw4);go_roundw;case rel=>exact⟨i+1,j2,A4,c4,D3++[(f,x2)],by omega,hj2,by go_num,rfl,by simp,HO4.out,HB4.out,HCE.out⟩
          case measure=>simp[intOf];omega
         ·have HPC:=a_ (w176 hfx);rw[HPC.out,T_]at HCE;go_wp2_with fail;go_roundw;case rel=>exact⟨i+1,j2,A3,c3,D3,by omega,hj2,by go_num,rfl,rfl,HO3.out.drewN _,q15 HB3.out _,HCE.out⟩
          case measure=>simp[intOf];omega
  ·have HD:Hid (D=w169 L M):=le_end hlt HE.out;have q2:=x16 HB.out HBX.out.c2;have g2:wo.frozen? ⟨w.heap.size+2,0,none⟩=false:=(HB.out.frozen (p:=⟨w.heap.size+2,0,none⟩) (by simp[HBX.out.size])).trans HBX.out.f2;have HBW:=a_ (q12 HB.out HBX.out.bel);have HZ:Hid (W0.heap.size=w.heap.size+3):=HBX.out.size;have fin:q171 (ofOp L M 3) w (.returned (.agg #[.slice A' D.length c'])) (wo.setCell ⟨w.heap.size+2,0,none⟩ (.slice A' D.length c')):=by have hOD:=HO.out;have e1:D=ofOp L M 3:=HD.out.trans HOR.out;rw[e1]at hOD⊢;exact⟨A',c',rfl,Own.sp (ownsRow_setCell_below hOD (by rw[HZ.out];show w.heap.size+2<w.heap.size+3;omega) _),w14 HBW.out (by show w.heap.size≤w.heap.size+2;omega) _⟩
   have FIN:=a_ fin;clear fin;have hib:decide (i<L.length)=false:=by simpa using hlt
   go_wp2_with fail;refine m_ (by simp[results,Tryz.results280,go_sem,q2];try rfl) rfl ?_;exact FIN.out
