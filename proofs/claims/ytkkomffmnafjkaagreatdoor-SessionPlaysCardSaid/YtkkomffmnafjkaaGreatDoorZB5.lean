/- Contracts of the reference's insert, ends and of: the pieces between all .. -/
import Derived.Test.YtkkomffmnafjkaaGreatDoorZB4
set_option maxHeartbeats 16000000
set_option maxRecDepth 100000
set_option linter.all false
namespace Go.Proofs.YtkkomffmnafjkaaGreatDoor
open Go.RowKit
def SpI(w:World)(A:Option Addr)(c:Nat)(l:List Int):Prop:=l.length≤c∧(0<l.length→∃b off,A=some ⟨b,off,none⟩∧b<w.heap.size∧∀i x,l[i]?=some x→w.cell? ⟨b,off+i,none⟩=some (.int .i64 x))
theorem SpI.below{w w':World}{A:Option Addr}{c:Nat}{l:List Int}(h:SpI w A c l)(hb:Below w.heap.size w w'):SpI w' A c l:=⟨h.1,fun hn=>by obtain⟨b,off,e,hlt,hc⟩:=h.2 hn;exact⟨b,off,e,G_ hlt hb.size,fun i x hx=>(hb.cell (p:=⟨b,off+i,none⟩) hlt).trans (hc i x hx)⟩⟩
theorem SpI.at_{w:World}{A:Option Addr}{c:Nat}{l:List Int}(h:SpI w A c l){k:Nat}(hk:k<l.length):∃b off,A=some ⟨b,off,none⟩∧b<w.heap.size∧w.cell? ⟨b,off+k,none⟩=some (.int .i64 l[k]):=by obtain⟨b,off,e,hb,hc⟩:=h.2 (by omega);exact⟨b,off,e,hb,hc k _ (o_ hk)⟩
def OwnI(w:World)(base:Nat)(A:Option Addr)(c:Nat)(l:List Int):Prop:=w.ownsRow base 2 1 (.slice A l.length c) l.length (l.map (Value.int .i64))
theorem OwnI.nil(w:World)(base:Nat):OwnI w base none 0 []:=bH_ w base _ _
theorem OwnI.alloc{w:World}{base:Nat}{A:Option Addr}{c:Nat}{l:List Int}(h:OwnI w base A c l)(o:Obj):OwnI (w.alloc o) base A c l:=bT_ h o
theorem OwnI.drewN{w:World}{base:Nat}{A:Option Addr}{c:Nat}{l:List Int}(h:OwnI w base A c l)(n:Nat):OwnI (w.drewN n) base A c l:=h
theorem OwnI.drew{w:World}{base:Nat}{A:Option Addr}{c:Nat}{l:List Int}(h:OwnI w base A c l):OwnI w.drew base A c l:=bY_ h
theorem OwnI.below{w w':World}{base:Nat}{A:Option Addr}{c:Nat}{l:List Int}(h:OwnI w base A c l)(hb:Below w.heap.size w w'):OwnI w' base A c l:=az_ (row:=none) h ⟨hb.os,hb.tape,hb.output,hb.size,fun k hk _=>hb.block k hk⟩ (by cases A<;>simp[Value.ownBlock])
theorem OwnI.base_le{w:World}{base base':Nat}{A:Option Addr}{c:Nat}{l:List Int}(h:OwnI w base A c l)(hb:base'≤base):OwnI w base' A c l:=by
 refine⟨h.1,?_⟩;rcases h.2 with h2|⟨g,cap,cur,hv,hg,r⟩;·exact .inl h2
 ·exact .inr ⟨g,cap,cur,hv,by omega,r⟩
theorem OwnI.spi{w:World}{base:Nat}{A:Option Addr}{c:Nat}{l:List Int}(h:OwnI w base A c l):SpI w A c l:=by
 rcases h.2 with⟨hv,h0⟩|⟨g,cap,cur,hv,hb,hg,hnc,hcm,hcs,htake⟩;·exact⟨by omega,fun h=>by omega⟩
 ·have hA:A=some ⟨g,0,none⟩:=by injection hv
  have hc:c=cap:=by injection hv
  subst hA hc;refine⟨hnc,fun _=>⟨g,0,rfl,(X_.1 hg).1,fun i x hx=>?_⟩⟩;have:=World.ownsRow.cells h (g:=g) rfl i (.int .i64 x) (by simp[hx]);have hadd:∀j,(⟨g,0,none⟩:Addr).add j=⟨g,j,none⟩:=fun j=>by unfold Addr.add;split<;>simp_all
  rw[hadd]at this;simpa using this
theorem OwnI.at_{w:World}{base:Nat}{A:Option Addr}{c:Nat}{l:List Int}(h:OwnI w base A c l)(hn:0<l.length):∃g,A=some ⟨g,0,none⟩∧base≤g∧g<w.heap.size:=by obtain⟨g,cap,hv,hb,hlt⟩:=bX_ h hn;injection hv with hA;exact⟨g,hA,hb,hlt⟩
theorem OwnI.cell{w:World}{base g c:Nat}{l:List Int}(h:OwnI w base (some ⟨g,0,none⟩) c l){k:Nat}(hk:k<l.length):w.cell? ⟨g,k,none⟩=some (.int .i64 l[k]):=by rw[br_ h k (by omega)];simp[hk]
theorem own_ne{w:World}{base base' c c' g':Nat}{A:Option Addr}{L:List (Int×Int)}{l:List Int}(h:Own w base A c L)(h':OwnI w base' (some ⟨g',0,none⟩) c' l):(Value.slice A L.length c).ownBlock≠some g':=by
 rcases h.2 with⟨hv,_⟩|⟨g,cap,cur,hv,_,hg,_⟩;·injection hv with hA;subst hA;simp[Value.ownBlock]
 ·injection hv with hA;subst hA;intro e;have hgg:g=g':=by simpa[Value.ownBlock]using e
  subst hgg;rcases h'.2 with⟨hv',_⟩|⟨g2,cap2,cur2,hv',_,hg2,_⟩;·cases hv'
  ·injection hv' with hA';injection hA' with hA';injection hA' with hA';subst hA';rw[hg]at hg2;injection hg2 with hg2;injection hg2 with _ ht;exact absurd ht (by decide)
theorem OwnI.kept{w w':World}{base g c:Nat}{l:List Int}{row:Option Nat}(h:OwnI w base (some ⟨g,0,none⟩) c l)(hg:w.grownBy w' row)(hne:row≠some g):OwnI w' base (some ⟨g,0,none⟩) c l:=az_ h hg (.inr (fun e=>hne (by rw[←e];rfl)))
theorem OwnI.set{w:World}{base g c b o:Nat}{l:List Int}(h:OwnI w base (some ⟨g,0,none⟩) c l)(hne:b≠g)(u:Value):OwnI (w.setCell ⟨b,o,none⟩ u) base (some ⟨g,0,none⟩) c l:=h.kept (row:=some b) ⟨rfl,rfl,rfl,by simp,fun k _ hk=>heap_setCell_other w ⟨b,o,none⟩ k u (fun e=>hk (by simp[e]))⟩ (fun e=>hne (by injection e))
def RetI(l:List Int)(w:World)(e:Ending)(w':World):Prop:=∃A c,e=.returned (.slice A l.length c)∧OwnI w' w.heap.size A c l∧Below w.heap.size w w'
theorem Tryz.intInfo:(Tryz.prog.info? 2).map (fun i=>(i.zero,i.size,i.bytes))=some (some (.int .i64 0),1,8):=by kernel_rfl
theorem z108{w0 w:World}{ops:Array Oper}{rest:List Oper}{o:Oper}{a:Act}{Q:Exit→Act→World→Prop}(hgd:o.guard=none)(s x:Operand)(ho:o.op=.call {callee:=.builtin .append,args:=#[s,x],argTypes:=#[215,215]})(A:Option Addr)(c:Nat)(l:List Int)(hs:a.eval s=.slice A l.length c)(hown:OwnI w w0.heap.size A c l)(g:Nat)(x1:Int)(hx:a.eval x=.slice (some ⟨g,0,none⟩) 1 1)(hc:w.cell? ⟨g,0,none⟩=some (.int .i64 x1))(hl:l.length≤2000000)(hbel:Below w0.heap.size w0 w)(h:∀A' c' w',OwnI w' w0.heap.size A' c' (l++[x1])→Below w0.heap.size w0 w'→w.grownBy w' (Value.slice A l.length c).ownBlock→wpList Tryz.prog ops Q rest (a.put o.dst (.slice A' (l.length+1) c')) w'):wpList Tryz.prog ops Q (o::rest) a w:=by
 obtain⟨i0,hi,hz0,hz1,hz2⟩:=aT_ Tryz.intInfo;refine wpList_append_own w hgd s x _ ho w0.heap.size 2 i0 _ 1 8 Tryz.underlying215 hi hz0 hz1 hz2 rfl (by decide) _ _ _ hs hown ⟨g,0,none⟩ 1 1 [.int .i64 x1] hx rfl ?_ ?_ (by simp only[maxLen];omega) (by omega) hbel.size ?_;·intro j u hj;match j,hj with|0,hj=>simp at hj;rw[←hj];exact hc|j+1,hj=>simp at hj
 ·intro u hu;simp at hu;rw[hu];rfl
 ·intro v' w' h1 h2 _;have hlt:=al_ hown;have hbel':Below w0.heap.size w0 w':=hbel.grown h2 hbel.size (fun k hk=>(hlt k hk).1);have hlen:(l++[x1]).length=l.length+1:=by simp
  have hsp:l.map (Value.int .i64)++[.int .i64 x1]=(l++[x1]).map (Value.int .i64):=by simp
  rw[hsp]at h1;have hform:∃A' c',v'=.slice A' (l.length+1) c':=by
   rcases h1.2 with⟨_,hn⟩|⟨g',cap,cur,hv,_⟩;·omega
   ·exact⟨_,_,hv⟩
  obtain⟨A',c',rfl⟩:=hform;exact h A' c' w' (by unfold OwnI;rw[hlen];exact h1) hbel' h2
def y80(put:Bool)(r:List Int)(n:Int):List Int:=if put=true then r else q39 r n
theorem k169{l:List Int}{k:Nat}(h:k<l.length):l.drop k=l[k]::l.drop (k+1):=ag_ h
theorem j145(A:Option Addr)(c:Nat)(l:List Int)(n:Int)(w:World)(h:SpI w A c l)(hl:l.length≤1000000):Calls Tryz.prog 232 #[.slice A l.length c,.int .i64 n] w (RetI (q39 l n) w):=by
 have hH:=a_ h;clear h;go_enter Tryz.func232,Tryz.ntmps232;go_wp2;go_loopw[5,6,7](fun v p i wr=>∃(k:Nat)(put:Bool)(out:List Int)(A':Option Addr)(c':Nat),k≤l.length∧i=.int .i64 k∧p=.bool put∧v=.slice A' out.length c'∧out.length≤k+put.toNat∧out++y80 put (l.drop k) n=q39 l n∧OwnI wr w.heap.size A' c' out∧Below w.heap.size w wr)(fun _ _ i _=>l.length-(intOf i).toNat);case atStart=>exact⟨0,false,[],none,0,v_ _,rfl,rfl,rfl,by simp,by simp[y80],OwnI.nil _ _,b_ _ _⟩
 case round=>
  obtain⟨k,put,out,A',c',hk,rfl,rfl,rfl,hol,hout,hown,hbw⟩:=hrel;have HO:=a_ hown;have HE:=a_ hout;clear hown hout;by_cases hlt:k<l.length;·
   obtain⟨b,off,e,hb,c0⟩:=hH.out.at_ hlt;have HD:=a_ (k169 hlt);obtain⟨x,hx⟩:∃x,l[k]=x:=⟨_,rfl⟩;rw[hx]at c0;have c1:=q108 hb hbw c0;have HX:=a_ hx;clear hx;rw[e];cases put;·
    have hol:out.length≤k:=hol;by_cases h1:n≤x;·
     by_cases h2:n<x;·
      have HR:Hid (out++[n]++[x]++y80 true (l.drop (k+1)) n=q39 l n):=by simp only[Hid];rw[←HE.out,HD.out,HX.out];simp[y80,q39,h1,h2]
      go_wp2_with(first|(at_builtin;refine z108 rfl (.tmp 30) (.tmp 32) rfl A' c' out rfl (by exact HO.out.alloc _) _ n rfl (by simp[go_sem]) (by omega) (by(repeat(first|exact b_ _ _|assumption|refine q15 ?_ _|refine x15 ?_|refine q11 ?_ _|refine w14 ?_ (by simp) _|refine w14 ?_ (by omega) _))) ?_;intro A2 c2 w2 hown2 hbw2 _;have cc:=q108 hb hbw2 c0;have HO2:=a_ hown2;clear hown2)|(at_builtin;refine z108 rfl (.tmp 34) (.tmp 39) rfl A2 c2 (out++[n]) (by simp;rfl) (by exact HO2.out.alloc _) _ x rfl (by simp[go_sem]) (by simp;omega) (by(repeat(first|exact b_ _ _|assumption|refine q15 ?_ _|refine x15 ?_|refine q11 ?_ _|refine w14 ?_ (by simp) _|refine w14 ?_ (by omega) _))) ?_;intro A3 c3 w3 hown3 hbw3 _));go_roundw;case rel=>exact⟨k+1,true,out++[n]++[x],A3,c3,by omega,by go_num,rfl,by simp,by simp[Bool.toNat];omega,HR.out,hown3,hbw3⟩
      case measure=>simp[intOf];omega
     ·have HR:Hid (out++[x]++y80 true (l.drop (k+1)) n=q39 l n):=by simp only[Hid];rw[←HE.out,HD.out,HX.out];simp[y80,q39,h1,h2]
      go_wp2_with(first|(at_builtin;refine z108 rfl (.tmp 34) (.tmp 39) rfl A' c' out rfl (by exact HO.out.alloc _) _ x rfl (by simp[go_sem]) (by omega) (by(repeat(first|exact b_ _ _|assumption|refine q15 ?_ _|refine x15 ?_|refine q11 ?_ _|refine w14 ?_ (by simp) _|refine w14 ?_ (by omega) _))) ?_;intro A3 c3 w3 hown3 hbw3 _));go_roundw;case rel=>exact⟨k+1,true,out++[x],A3,c3,by omega,by go_num,rfl,by simp,by simp[Bool.toNat];omega,HR.out,hown3,hbw3⟩
      case measure=>simp[intOf];omega
    ·have HR:Hid (out++[x]++y80 false (l.drop (k+1)) n=q39 l n):=by simp only[Hid];rw[←HE.out,HD.out,HX.out];simp[y80,q39,h1]
     go_wp2_with(first|(at_builtin;refine z108 rfl (.tmp 34) (.tmp 39) rfl A' c' out rfl (by exact HO.out.alloc _) _ x rfl (by simp[go_sem]) (by omega) (by(repeat(first|exact b_ _ _|assumption|refine q15 ?_ _|refine x15 ?_|refine q11 ?_ _|refine w14 ?_ (by simp) _|refine w14 ?_ (by omega) _))) ?_;intro A3 c3 w3 hown3 hbw3 _));go_roundw;case rel=>exact⟨k+1,false,out++[x],A3,c3,by omega,by go_num,rfl,by simp,by simp[Bool.toNat];omega,HR.out,hown3,hbw3⟩
     case measure=>simp[intOf];omega
   ·have hol:out.length≤k+1:=hol;have HR:Hid (out++[x]++y80 true (l.drop (k+1)) n=q39 l n):=by simp only[Hid];rw[←HE.out,HD.out,HX.out];simp[y80]
    go_wp2_with(first|(at_builtin;refine z108 rfl (.tmp 34) (.tmp 39) rfl A' c' out rfl (by exact HO.out.alloc _) _ x rfl (by simp[go_sem]) (by omega) (by(repeat(first|exact b_ _ _|assumption|refine q15 ?_ _|refine x15 ?_|refine q11 ?_ _|refine w14 ?_ (by simp) _|refine w14 ?_ (by omega) _))) ?_;intro A3 c3 w3 hown3 hbw3 _));go_roundw;case rel=>exact⟨k+1,true,out++[x],A3,c3,by omega,by go_num,rfl,by simp,by simp[Bool.toNat];omega,HR.out,hown3,hbw3⟩
    case measure=>simp[intOf];omega
  ·have hdn:l.drop k=[]:=bw_ (by omega);have HE':=HE.out;rw[hdn]at HE';have HE2:=a_ HE';clear HE' hdn;cases put;·
    have hol:out.length≤k:=hol;have e2:Hid (q39 l n=out++[n]):=by simp only[Hid];rw[←HE2.out];simp[y80,q39]
    go_wp2_with(first|(at_builtin;refine z108 rfl (.tmp 43) (.tmp 45) rfl A' c' out rfl (by exact HO.out.alloc _) _ n rfl (by simp[go_sem]) (by omega) (by(repeat(first|exact b_ _ _|assumption|refine q15 ?_ _|refine x15 ?_|refine q11 ?_ _|refine w14 ?_ (by simp) _|refine w14 ?_ (by omega) _))) ?_;intro A3 c3 w3 hown3 hbw3 _));go_ret;refine⟨A3,c3,?_,?_,hbw3⟩;·rw[e2.out,show(out++[n]).length=out.length+1 from by simp];rfl
    ·rw[e2.out];exact hown3
   ·have e2:Hid (q39 l n=out):=by simp only[Hid];rw[←HE2.out];simp[y80]
    go_wp2_with fail;go_ret;refine⟨A',c',?_,?_,hbw⟩;·rw[e2.out];rfl
    ·rw[e2.out];exact HO.out
theorem x169{out:List Int}{x:Int×Int}(h:okS x=true):x139 out x=q39 (q39 out x.1) x.2:=by simp[x139,h]
theorem k171{out:List Int}{x:Int×Int}(h:okS x=false):x139 out x=out:=by simp[x139,h]
theorem x171(A:Option Addr)(c:Nat)(L:List (Int×Int))(B:Option Addr)(d:Nat)(M:List (Int×Int))(w:World)(h:Sp w A c L)(h':Sp w B d M)(hl:L.length≤100000)(hl':M.length≤100000):Calls Tryz.prog 168 #[.slice A L.length c,.slice B M.length d] w (RetI (x19 (L++M)) w):=by
 have hH:=a_ h;have hH':=a_ h';clear h h';go_enter Tryz.func168,Tryz.ntmps168;go_wp2_with(first|(at_builtin;refine x119 rfl (.tmp 8) (.tmp 9) rfl (some ⟨w.heap.size,0,none⟩) 0 [] rfl (by exact World.ownsRow_made _ _ _ (t_ _) (by simp[maxLen]) rfl) A c L rfl (by exact hH.out.alloc _) (by simp;omega) (by(repeat(first|exact b_ _ _|refine q15 ?_ _|refine x15 ?_|refine q11 ?_ _|refine w14 ?_ (by simp) _))) ?_;intro A1 c1 w1 hown1 hbw1 _;have HO1:=a_ hown1;clear hown1)|(at_builtin;refine x119 rfl (.tmp 10) (.tmp 11) rfl A1 c1 ([]++L) (by first|rfl|(simp;done)|(simp;rfl)) HO1.out B d M rfl (by exact hH'.out.below hbw1) (by simp;omega) (by exact hbw1) ?_;intro A2 c2 w2 hown2 hbw2 _;have HO2:=a_ hown2;clear hown2));have hsp2:Hid (Sp w2 A2 c2 (L++M)):=by simp only[Hid];have:=HO2.out.sp;simpa using this
 have hlen:L.length+M.length=(L++M).length:=by simp
 obtain⟨N,hN⟩:∃N,L++M=N:=⟨_,rfl⟩;rw[hN]at hsp2 hlen;rw[hN];have hnl:N.length≤200000:=by omega
 have HNN:=a_ hN;clear hN HO1 HO2 hH hH';try rw[hlen]
 clear hlen;go_loopw[5,7](fun v i wr=>∃(k:Nat)(A':Option Addr)(c':Nat),k≤N.length∧i=.int .i64 k∧v=.slice A' (x19 (N.take k)).length c'∧OwnI wr w.heap.size A' c' (x19 (N.take k))∧Below w2.heap.size w2 wr)(fun _ i _=>N.length-(intOf i).toNat);case atStart=>exact⟨0,none,0,v_ _,rfl,rfl,OwnI.nil _ _,b_ _ _⟩
 case round=>
  obtain⟨k,A',c',hk,rfl,rfl,hown,hbw⟩:=hrel;have HO:=a_ hown;clear hown;by_cases hlt:k<N.length;·
   obtain⟨b,off,e,hb,d1,d2⟩:=(hsp2.out.below hbw).at_ hlt;have hel:=(x73 (N.take k)).2.2;have hel2:(x19 (N.take k)).length≤400000:=by simp at hel;omega
   have HG:=a_ (k166 hlt);obtain⟨⟨x1,x2⟩,hx⟩:∃x,N[k]=x:=⟨_,rfl⟩;rw[hx]at d1 d2;have HX:=a_ hx;clear hx hel;obtain⟨E,hE⟩:∃E,x19 (N.take k)=E:=⟨_,rfl⟩;have HOE:=HO.out;rw[hE]at HOE;rw[hE]at hel2⊢;have HEE:=a_ hE;have HO':=a_ HOE;clear hE HOE HO;rw[e];have hk0:(0:Int)≤(k:Int):=by omega
   have hk1:(k:Int)<(N.length:Int):=by omega
   cases hok:okS (x1,x2);·
    have hR:=fun W=>a_ (x64 x1 x2 W);rw[hok]at hR;have HN:=a_ (k171 (out:=E) hok);clear hok;go_wp2_with fail;refine(hR _).out.mono ?_;rintro e1 w3⟨rfl,n,rfl⟩;go_wp2_with fail;go_roundw;case rel=>exact⟨k+1,A',c',by omega,by go_num,by rw[HG.out,HEE.out,HX.out,HN.out],by rw[HG.out,HEE.out,HX.out,HN.out];exact(HO'.out.alloc _).drewN _,by(repeat(first|exact b_ _ _|assumption|refine q15 ?_ _|refine x15 ?_|refine q11 ?_ _|refine w14 ?_ (by simp) _|refine w14 ?_ (by omega) _))⟩
    case measure=>simp[intOf];omega
   ·have hR:=fun W=>a_ (x64 x1 x2 W);rw[hok]at hR;have HN:=a_ (x169 (out:=E) hok);have hi1:=x52 E x1;have tok:True:=trivial;clear hok;go_wp2_with fail;refine(hR _).out.mono ?_;rintro e1 w3⟨rfl,n,hw3⟩;have hb3:Below wr.heap.size wr w3:=by rw[←hw3];(repeat(first|exact b_ _ _|refine q15 ?_ _|refine x15 ?_|refine q11 ?_ _|refine w14 ?_ (by simp) _))
    have HO3:=a_ (HO'.out.below hb3);have e1:=x16 hb3 d1;have e2:=x16 hb3 d2;clear hw3 hR d1 d2;go_wp2_with fail;go_region_held3(fun w'=>w'.cell? ⟨b,off+k*2,none⟩=some (.int .i64 x1)∧w'.cell? ⟨b,off+k*2+1,none⟩=some (.int .i64 x2))(first|exact⟨e1'',e2''⟩|exact⟨e1',e2'⟩|exact⟨e1,e2⟩)(first
     |(go_at_call 232;have _t:=tok;refine(j145 A' c' E x1 _ (by exact HO3.out.spi) (by omega)).mono ?_;rintro r4 w4⟨A4,c4,rfl,hown4,hbw4⟩;have HO4:=a_ hown4;have e1':=x16 hbw4 e1;have e2':=x16 hbw4 e2;clear tok hown4)
     |(go_at_call 232;refine(j145 A4 c4 (q39 E x1) x2 _ (by exact HO4.out.spi) (by omega)).mono ?_;rintro r5 w5⟨A5,c5,rfl,hown5,hbw5⟩;have HO5:=a_ hown5;have e1'':=x16 hbw5 e1';have e2'':=x16 hbw5 e2';clear hown5));have hb4:=q12 hbw4 (x15 (q12 hb3 hbw));have hsz:=ai_ hbw2.size hb4.size;have HB5:=a_ (q12 hbw5 hb4);clear hb4;go_wp2_with fail;go_roundw;case rel=>exact⟨k+1,A5,c5,by omega,by go_num,by rw[HG.out,HEE.out,HX.out,HN.out],by rw[HG.out,HEE.out,HX.out,HN.out];exact HO5.out.base_le hsz,HB5.out⟩
    case measure=>simp[intOf];omega
  ·go_wp2;go_ret;rw[x45 hlt]at HO⊢;rw[HNN.out];exact⟨A',c',rfl,HO.out,q12 hbw hbw2⟩
theorem getD_at{E:List Int}{k:Nat}(h:k<E.length):E.getD k 0=E[k]:=by rw[aJ_,o_ h];rfl
