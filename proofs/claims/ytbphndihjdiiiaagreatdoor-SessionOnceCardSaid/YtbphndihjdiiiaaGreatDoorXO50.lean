/- What SessionOnce's loop knows. Printed by mk50. The walk of SessionOnce. .. -/
import Derived.Maps.AppendAt
import Derived.Test.YtbphndihjdiiiaaGreatDoorXO29
set_option maxHeartbeats 16000000
set_option maxRecDepth 100000
set_option linter.all false
namespace Go.Proofs.YtbphndihjdiiiaaGreatDoor
open Go.RowKit
theorem y144{P:Program}{w:World}{o:Oper}{a:Act}{K:Act→World→Prop}{Q:Exit→Act→World→Prop}(s x:Operand)(t:TypeId)(ho:o.op=.call {callee:=.builtin .append,args:=#[s,x],argTypes:=#[t,t]})(base:Nat)(e:TypeId)(i:TypeInfo)(z:Value)(size bytes:Nat)(ht:P.underlying t=some (.slice e))(hi:P.info? e=some i)(hz:i.zero=some z)(hsize:i.size=size)(hby:i.bytes=bytes)(hzs:z.cells.size=size)(hsz:0<size)(v:Value)(n:Nat)(xs:List Value)(hs:a.eval s=v)(hown:w.ownsRow base e size v n xs)(ad:Addr)(m c:Nat)(news:List Value)(hx:a.eval x=.slice (some ad) m c)(hl:news.length=m*size)(hnews:∀j u,news[j]?=some u→w.cell? (ad.add j)=some u)(h1:∀u∈news,u.oneCell'=true)(h63:n+m≤maxLen)(hbytes:(n+m)*bytes≤140737488355328)(hbase:base≤w.heap.size)(h:∀v' w',w'.ownsRow base e size v' (n+m) (xs++news)→w.grownBy w' v.ownBlock→(v'=.slice none 0 0↔v=.slice none 0 0∧m=0)→(v'.ownBlock=v.ownBlock∨v'.ownBlock=some w.heap.size)→K (a.put o.dst v') w'):o.wp P a w K Q:=by obtain⟨v',w',hr,h2,h3,h4,h5⟩:=run_append_own_at (P:=P) w base t o.type e i z size bytes ht hi hz hsize hby hzs hsz v n xs hown ad m c news hl hnews h1 h63 hbytes hbase;unfold Oper.wp execOp;simp only[ho,resolve,invoke,builtin,Sem.run_bind,Sem.run_pure,Result.andThen_ok,List.map_toArray,List.map_cons,List.map_nil,hs,hx,hr];exact h v' w' h2 h3 h4 h5
theorem y164{α:Type}{P:Program}{enc:α→List Value}{n:Nat}{T ST:TypeId}{bytes:Nat}{w w0:World}(K:ElemK P enc n T ST bytes){o:Oper}{a:Act}{K':Act→World→Prop}{Q:Exit→Act→World→Prop}(s x:Operand)(ho:o.op=.call {callee:=.builtin .append,args:=#[s,x],argTypes:=#[ST,ST]})(A:Option Addr)(c:Nat)(L:List α)(hs:a.eval s=.slice A L.length c)(hown:OwnG T enc n w w0.heap.size A c L)(A2:Option Addr)(c2:Nat)(L2:List α)(hx:a.eval x=.slice A2 L2.length c2)(hsp:SpG enc n w A2 c2 L2)(h2:0<L2.length)(hl:L.length+L2.length≤1000000)(hbel:Below w0.heap.size w0 w)(h:∀A' c' w',OwnG T enc n w' w0.heap.size A' c' (L++L2)→Below w0.heap.size w0 w'→w.grownBy w' (Value.slice A L.length c).ownBlock→((Value.slice A' (L.length+L2.length) c').ownBlock=(Value.slice A L.length c).ownBlock∨(Value.slice A' (L.length+L2.length) c').ownBlock=some w.heap.size)→K' (a.put o.dst (.slice A' (L.length+L2.length) c')) w'):o.wp P a w K' Q:=by
 obtain⟨i0,z,hi,hz,hsz,hby,hzs⟩:=K.info;obtain⟨b,off,e,_,_⟩:=hsp.at' 0 h2;subst e;refine y144 s x _ ho w0.heap.size T i0 z n bytes K.und hi hz hsz hby hzs K.pos _ _ _ hs hown ⟨b,off,none⟩ L2.length c2 (w180 enc L2) hx (w46 K.len L2) ?_ ?_ (by simp only[maxLen];omega) ?_ hbel.size ?_;·
  intro j u hj;have hadd:∀j,(⟨b,off,none⟩:Addr).add j=⟨b,off+j,none⟩:=fun j=>by unfold Addr.add;split<;>simp_all
  rw[hadd];have hjl:=(L_.1 hj).1;rw[w46 K.len]at hjl;have hnp:=K.pos;have hk:j/n<L2.length:=Nat.div_lt_of_lt_mul (by rw[aP_];exact hjl);obtain⟨b',off',e',_,h1⟩:=hsp.at' (j/n) hk;injection e' with e';injection e' with e1 e2;subst e1 e2;have hm:j%n<n:=Nat.mod_lt _ hnp;have hlx:=K.len L2[j/n];have hv:=h1 (j%n) _ (o_ (by omega));have hv2:=j60 K.len L2 (j/n) L2[j/n] (j%n) _ (o_ hk) (o_ (by omega));have hdm:j/n*n+j%n=j:=by rw[aP_];exact Nat.div_add_mod j n
  rw[hdm]at hv2;rw[cd_,hdm]at hv;rw[hj]at hv2;injection hv2 with hv2;rw[hv2];exact hv
 ·intro u hu;simp only[w180,List.mem_flatMap]at hu;obtain⟨y,_,hu⟩:=hu;exact K.one y u hu
 ·have:=K.small;have:(L.length+L2.length)*bytes≤1000000*128:=bx_ hl this;omega
 ·intro v' w' h1 h2' _ hat;have hlt:=ae_ hown;have hbel':Below w0.heap.size w0 w':=hbel.grown h2' hbel.size (fun k hk=>(hlt k hk).1);have hlen:(L++L2).length=L.length+L2.length:=by simp
  rw[←x68]at h1;have hform:∃A' c',v'=.slice A' (L.length+L2.length) c':=by
   rcases h1.2 with⟨hv,hn⟩|⟨g',cap,cur,hv,_⟩;·omega
   ·exact⟨_,_,hv⟩
  obtain⟨A',c',rfl⟩:=hform;exact h A' c' w' (by unfold OwnG;rw[hlen];exact h1) hbel' h2' hat
theorem k164{α:Type}{P:Program}{enc:α→List Value}{n:Nat}{T ST:TypeId}{bytes:Nat}{w w0:World}(K:ElemK P enc n T ST bytes){ops:Array Oper}{rest:List Oper}{o:Oper}{a:Act}{Q:Exit→Act→World→Prop}(hgd:o.guard=none)(s x:Operand)(ho:o.op=.call {callee:=.builtin .append,args:=#[s,x],argTypes:=#[ST,ST]})(A:Option Addr)(c:Nat)(L:List α)(hs:a.eval s=.slice A L.length c)(hown:OwnG T enc n w w0.heap.size A c L)(A2:Option Addr)(c2:Nat)(L2:List α)(hx:a.eval x=.slice A2 L2.length c2)(hsp:SpG enc n w A2 c2 L2)(h2:0<L2.length)(hl:L.length+L2.length≤1000000)(hbel:Below w0.heap.size w0 w)(h:∀A' c' w',OwnG T enc n w' w0.heap.size A' c' (L++L2)→Below w0.heap.size w0 w'→w.grownBy w' (Value.slice A L.length c).ownBlock→((Value.slice A' (L.length+L2.length) c').ownBlock=(Value.slice A L.length c).ownBlock∨(Value.slice A' (L.length+L2.length) c').ownBlock=some w.heap.size)→wpList P ops Q rest (a.put o.dst (.slice A' (L.length+L2.length) c')) w'):wpList P ops Q (o::rest) a w:=wpList_plain hgd fun _ hK=>y164 K s x ho A c L hs hown A2 c2 L2 hx hsp h2 hl hbel fun A' c' w' h1 h2 h3 h4=>hK _ _ (h A' c' w' h1 h2 h3 h4)
structure OnceJ(s:SesL)(HL TL:List w17)(met:Bool):Prop where
 yes:met=true→(s.st=2∧w13 HL TL=some s.lf)∨(s.st=3∧s.cut=false∧w13 HL TL=some [])∨(s.st=3∧s.cut=true∧∃R,w13 HL TL=some R)
 no:met=false→TL=[]∧(s.st=1∨(s.st=3∧s.cut=true))
theorem OnceJ.next{s s':SesL}{HL TL:List w17}{met:Bool}{H:List (Int×Int)}{cs:Int}{p:w17}(h:OnceJ s HL TL met)(hs:s.Ok2)(hc:Canon H)(hcs:1≤cs)(hn:s.nextS H cs=some (p,s')):OnceJ s' HL (TL++[p]) met:=by
 unfold SesL.nextS at hn;split at hn;·
  next h2=>
   obtain⟨⟨q,L⟩,hq,he⟩:=bd_.1 hn;simp only[Prod.mk.injEq]at he;obtain⟨rfl,rfl⟩:=he;have hst:=k170 hc hcs (hs.ok.tells h2).2 hq;cases met with
    |false=>
     obtain⟨_,h3|h3⟩:=h.no rfl;·omega
     ·omega
    |true=>
     refine⟨fun _=>?_,fun h=>by cases h⟩;rcases h.yes rfl with⟨_,hb⟩|⟨h3,_⟩|⟨h3,_⟩;·
      have hb2:w13 HL (TL++[q])=some L:=by rw[y146,hb];exact hst
      split;·next hL=>exact .inr (.inl ⟨rfl,hs.cut (by omega),by rw[hb2,hL]⟩)
      ·exact .inl ⟨h2,hb2⟩
     ·omega
     ·omega
 ·cases hn
theorem OnceJ.cutS{s:SesL}{HL TL:List w17}{met:Bool}(h:OnceJ s HL TL met):OnceJ s.cutS HL TL met:=by
 unfold SesL.cutS;split;·exact h
 ·next h3=>
   refine⟨fun hm=>.inr (.inr ⟨rfl,rfl,?_⟩),fun hm=>⟨(h.no hm).1,.inr ⟨rfl,rfl⟩⟩⟩;rcases h.yes hm with⟨_,hb⟩|⟨h4,_⟩|⟨h4,_⟩;·exact⟨_,hb⟩
   ·exact absurd h4 h3
   ·exact absurd h4 h3
theorem OnceJ.meetS{s:SesL}{HL TL:List w17}(h:OnceJ s HL TL false)(hs:s.Ok2)(h1:s.st=1)(id:Int)(ps:List w17):OnceJ (s.meetS id ps) ps TL true:=by
 obtain⟨rfl,_⟩:=h.no rfl;refine⟨fun _=>?_,fun h=>by cases h⟩;unfold SesL.meetS;split;·next hp=>exact .inr (.inl ⟨rfl,hs.cut (by omega),by rw[hp];rfl⟩)
 ·exact .inl ⟨rfl,rfl⟩
theorem OnceJ.other{s:SesL}{HL TL:List w17}(h:OnceJ s HL TL false)(HL':List w17):OnceJ s HL' TL false:=⟨fun h=>(by cases h),h.no⟩
theorem OnceJ.done{s:SesL}{HL TL:List w17}{met:Bool}(h:OnceJ s HL TL met):∃R,w13 HL TL=some R∧((met&&(decide (s.st=3)&&!s.cut))=true→R=[]):=by
 cases met with
  |false=>obtain⟨rfl,_⟩:=h.no rfl;refine⟨HL,?_,fun h=>by simp at h⟩;cases HL<;>rfl
  |true=>
   rcases h.yes rfl with⟨h2,hb⟩|⟨_,_,hb⟩|⟨_,hc,R,hb⟩;·exact⟨_,hb,fun h=>by rw[j_ (by omega)]at h;simp at h⟩
   ·exact⟨_,hb,fun _=>rfl⟩
   ·exact⟨_,hb,fun h=>by rw[hc]at h;simp at h⟩
theorem SesAt.mutP{r:ReqC}{g:CfgL}{S:List Nat}{w:World}{b tb:Nat}{s:SesL}{cs:Array Value}{f:Nat×Nat}(h:SesAt r g S w b s)(h2:w.heap[tb]?=some (.cells cs 82 f))(hn:tb∉S){w':World}(hm:Mut [tb] w w'):SesAt r g S w' b s:=by
 obtain⟨A,c,A1,c1,A2,c2,en,bd,hk,hrq,hT,hN⟩:=h.blk;have hne:∀k∈S,k∉[tb]:=fun k hk hin=>by rw[G_]at hin;exact hn (hin▸hk)
 have hrow:∀{A:Option Addr}{n:Nat}{T:TypeId},(0<n→∀a,A=some a→∃cs f,w.heap[a.block]?=some (.cells cs T f))→T≠82→0<n→∀a,A=some a→a.block∉[tb]:=fun ht hT h0 a ha=>by obtain⟨cs',f',hc⟩:=ht h0 a ha;simpa using k36 hc h2 hT
 have hR2:ReqOwn [tb] r w A c A1 c1 A2 c2:=⟨⟨hrq.at_,hrow hrq.cp.t (by decide),hrow hrq.cp.t1 (by decide),hrow hrq.cp.t2 (by decide)⟩,hrq.cp⟩;refine⟨h.in_,fun k hk=>P_ (h.lt k hk) hm.size,A,c,A1,c1,A2,c2,en,bd,hm.blk _ _ hk (hne _ h.in_),⟨⟨(hR2.mut hm).at_,hrq.in_.o,hrq.in_.o1,hrq.in_.o2⟩,(hR2.mut hm).cp⟩,fun hst=>?_,hN⟩;obtain⟨h1,h3,h4,bb,h5,h6⟩:=hT hst;obtain⟨A3,c3,n3,hn3,sent,hb3,hp3⟩:=h6.blk;refine⟨h1,h3,h4,bb,h5,h6.in_,A3,c3,n3,hn3,sent,hm.blk _ _ hb3 (hne _ h6.in_),hp3.sp.mut (fun h0 a ha=>?_) hm,fun h0=>?_⟩;·obtain⟨g',off,cs',e1,e2,e3⟩:=hp3.own h0;rw[ha]at e1;injection e1 with e1;rw[e1];exact hne _ e3
 ·obtain⟨g',off,cs',e1,e2,e3⟩:=hp3.own h0;exact⟨g',off,cs',e1,hm.blk _ _ e2 (hne _ e3),e3⟩
structure ToldAt(base:Nat)(S D:List Nat)(b2:Nat)(w:World)(A:Option Addr)(c:Nat)(TL:List w17):Prop where
 own:OwnG 82 j18 3 w base A c TL
 ap:∀a,A=some a→a.block∈D∧a.block∉S∧a.block≠b2∧∃cs,w.heap[a.block]?=some (.cells cs 82 (0,0))
theorem Both.grow{r:ReqC}{g:CfgL}{w0:World}{S D:List Nat}{w w':World}{b b2:Nat}{s x:SesL}(h:Both r g w0 S D w b b2 s x)(T:List Nat)(hm:Mut T w w')(hT:∀k∈T,k∈D∧k≠b2)(hp:SesAt r g S w' b s)(N:List Nat)(hN:∀k∈N,w.heap.size≤k∧k<w'.heap.size):Both r g w0 S (D++N) w' b b2 s x:=by
 have hlow:∀k∈D++N,w0.heap.size≤k:=fun k hk=>by
  rcases z_.1 hk with hk|hk;·exact h.low k hk
  ·exact ag_ h.bel.size (hN k hk).1
 refine⟨hp,h.d.mut hm (fun k hk=>(hT k hk).1) (fun hin=>(hT _ hin).2 rfl) (z_.2 (.inl h.d.in_)) (fun k hk=>?_) (fun k hk=>?_),fun k hk=>z_.2 (.inl (h.sub k hk)),h.ne,hlow,?_⟩;·
  rcases z_.1 hk with hk|hk;·exact P_ (h.d.lt k hk) hm.size
  ·exact(hN k hk).2
 ·exact(z_.1 hk).imp_right fun hk=>(hN k hk).1
 ·exact h.bel.trans (hm.below (fun k hk=>h.low k (hT k hk).1) h.bel.size)
theorem y165{w w':World}{tb:Nat}(h:w.grownBy w' (some tb)):Mut [tb] w w':=⟨h.os,h.tape,h.output,h.size,fun k o hk hn=>(h.block k (q14 hk) (fun e=>hn (by injection e with e;rw[e];simp))).trans hk⟩
theorem z165{w w':World}(h:w.grownBy w' none):Mut [] w w':=⟨h.os,h.tape,h.output,h.size,fun k o hk _=>(h.block k (q14 hk) (fun e=>by cases e)).trans hk⟩
theorem y170{r:ReqC}{g:CfgL}{w0:World}{S D:List Nat}{w w':World}{b b2 base c c':Nat}{s x:SesL}{A A':Option Addr}{TL:List w17}{p:w17}(h:Both r g w0 S D w b b2 s x)(ht:ToldAt base S D b2 w A c TL)(ho:OwnG 82 j18 3 w' base A' c' (TL++[p]))(hg:w.grownBy w' (Value.slice A TL.length c).ownBlock)(hat:(Value.slice A' (TL.length+1) c').ownBlock=(Value.slice A TL.length c).ownBlock∨(Value.slice A' (TL.length+1) c').ownBlock=some w.heap.size):∃D',Both r g w0 S D' w' b b2 s x∧ToldAt base S D' b2 w' A' c' (TL++[p])∧∃T,Mut T w w'∧∀k∈T,∃a,A=some a∧a.block=k:=by
 obtain⟨ga,cap,cur,e1,e2,e3,_⟩:=ho.2.resolve_left (fun e=>by simp at e);injection e1 with e1 _ _;subst e1;have hlt:=q14 e3;cases A with
  |none=>
   have hm:=z165 hg;have hp:=h.p.alloc (hm.below (n:=w.heap.size) (by simp) (v_ _));have hge:ga=w.heap.size:=by
    rcases hat with e|e;·simp[Value.ownBlock]at e
    ·simpa[Value.ownBlock]using e
   refine⟨D++[ga],h.grow [] hm (by simp) hp [ga] (by simp;omega),⟨ho,fun a ha=>?_⟩,[],hm,by simp⟩;injection ha with ha;rw[←ha];refine⟨by simp,fun hin=>?_,?_,_,e3⟩;·have:=h.p.lt _ hin;simp only at this;omega
   ·have:=h.d.lt _ h.d.in_;simp only;omega
  |some a=>
   obtain⟨t1,t2,t3,cs,t4⟩:=ht.ap a rfl;have hm:Mut [a.block] w w':=y165 (by simpa[Value.ownBlock]using hg);have hp:=h.p.mutP t4 t2 hm;have hT:∀k∈[a.block],k∈D∧k≠b2:=by simpa using⟨t1,t3⟩
   rcases hat with e|e;·
    have hge:ga=a.block:=by simpa[Value.ownBlock]using e
    have hbo:=h.grow [a.block] hm hT hp [] (by simp);rw[Y_]at hbo;refine⟨D,hbo,⟨ho,fun a' ha=>?_⟩,[a.block],hm,by simp⟩;injection ha with ha;rw[←ha];simp only;rw[hge];exact⟨t1,t2,t3,_,by rw[←hge];exact e3⟩
   ·have hge:ga=w.heap.size:=by simpa[Value.ownBlock]using e
    refine⟨D++[ga],h.grow [a.block] hm hT hp [ga] (by simp;omega),⟨ho,fun a' ha=>?_⟩,[a.block],hm,by simp⟩;injection ha with ha;rw[←ha];refine⟨by simp,fun hin=>?_,?_,_,e3⟩;·have:=h.p.lt _ hin;simp only at this;omega
    ·have:=h.d.lt _ h.d.in_;simp only;omega
theorem ToldAt.below{base c b2:Nat}{S D:List Nat}{w w':World}{A:Option Addr}{TL:List w17}(h:ToldAt base S D b2 w A c TL)(hb:Below w.heap.size w w'):ToldAt base S D b2 w' A c TL:=⟨h.own.below hb,fun a ha=>by obtain⟨h1,h2,h3,cs,h4⟩:=h.ap a ha;exact⟨h1,h2,h3,cs,j3 hb h4⟩⟩
theorem ToldAt.ses{base c b2:Nat}{S S' D:List Nat}{w w':World}{A:Option Addr}{TL:List w17}(h:ToldAt base S D b2 w A c TL)(hm:Mut S w w')(hS:∀k∈S',k∈S∨w.heap.size≤k):ToldAt base S' (D++S') b2 w' A c TL:=by
 refine⟨?_,fun a ha=>?_⟩;·
  cases A with
   |none=>
    obtain⟨h1,h2⟩:=h.own;refine⟨h1,.inl ?_⟩;rcases h2 with h2|⟨g,cap,cur,e,_⟩;·exact h2
    ·cases e
   |some a=>
    obtain⟨_,h2,_,cs,h4⟩:=h.ap a rfl;obtain⟨h1,h3|⟨g,cap,cur,e,b1,b2,b3⟩⟩:=h.own;·exact⟨h1,.inl h3⟩
    ·injection e with e e5 e6;injection e with e;subst e;exact⟨h1,.inr ⟨g,cap,cur,by rw[e6],b1,hm.blk _ _ b2 h2,b3⟩⟩
 ·obtain⟨h1,h2,h3,cs,h4⟩:=h.ap a ha;exact⟨z_.2 (.inl h1),fun hin=>(hS _ hin).elim h2 (fun h5=>by have:=q14 h4;omega),h3,cs,hm.blk _ _ h4 h2⟩
theorem ToldAt.sex{base c b2:Nat}{S D:List Nat}{w w':World}{A:Option Addr}{TL:List w17}(h:ToldAt base S D b2 w A c TL)(hm:Mut [b2] w w'):ToldAt base S D b2 w' A c TL:=by
 refine⟨?_,fun a ha=>?_⟩;·
  cases A with
   |none=>
    obtain⟨h1,h2⟩:=h.own;refine⟨h1,.inl ?_⟩;rcases h2 with h2|⟨g,cap,cur,e,_⟩;·exact h2
    ·cases e
   |some a=>
    obtain⟨_,_,h3',cs,h4⟩:=h.ap a rfl;obtain⟨h1,h3|⟨g,cap,cur,e,b1,b2',b3⟩⟩:=h.own;·exact⟨h1,.inl h3⟩
    ·injection e with e e5 e6;injection e with e;subst e;exact⟨h1,.inr ⟨g,cap,cur,by rw[e6],b1,hm.blk _ _ b2' (by simpa using h3'),b3⟩⟩
 ·obtain⟨h1,h2,h3,cs,h4⟩:=h.ap a ha;exact⟨h1,h2,h3,cs,hm.blk _ _ h4 (by simpa using h3)⟩
theorem ToldAt.nil{base b2:Nat}{S D:List Nat}{w:World}:ToldAt base S D b2 w none 0 []:=⟨OwnG.nil _ _,fun a h=>by cases h⟩
structure HeadAt(S:List Nat)(w:World)(A:Option Addr)(c:Nat)(HL:List w17):Prop where
 sp:SpT 82 j18 3 w A c HL
 ap:∀a,A=some a→a.block∉S
theorem HeadAt.below{S:List Nat}{w w':World}{A:Option Addr}{c:Nat}{HL:List w17}(h:HeadAt S w A c HL)(hb:Below w.heap.size w w'):HeadAt S w' A c HL:=⟨h.sp.below hb,h.ap⟩
theorem HeadAt.ses{S S':List Nat}{w w':World}{A:Option Addr}{c:Nat}{HL:List w17}(h:HeadAt S w A c HL)(hm:Mut S w w')(hS:∀k∈S',k∈S∨w.heap.size≤k):HeadAt S' w' A c HL:=⟨h.sp.mut h.ap hm,fun a ha hin=>(hS _ hin).elim (h.ap a ha) fun h5=>by have:=k165 h.sp a ha;omega⟩
theorem HeadAt.sex{S:List Nat}{w w':World}{A:Option Addr}{c b2:Nat}{HL:List w17}{cs:Array Value}{f:Nat×Nat}(h:HeadAt S w A c HL)(hk:w.heap[b2]?=some (.cells cs 98 f))(hm:Mut [b2] w w'):HeadAt S w' A c HL:=⟨h.sp.mut_ty hk (by decide) hm,h.ap⟩
theorem Both.docblk{r:ReqC}{g:CfgL}{w0:World}{S D:List Nat}{w:World}{b b2:Nat}{s x:SesL}(h:Both r g w0 S D w b b2 s x):∃cs f,w.heap[b2]?=some (.cells cs 98 f):=by obtain⟨_,_,_,_,_,_,_,_,_,hk,_,_⟩:=h.d.blk;exact⟨_,_,hk⟩
structure OnceI(r:ReqC)(g:CfgL)(w1:World)(b b2:Nat)(S D:List Nat)(w:World)(s:SesL)(HA:Option Addr)(hc:Nat)(HL:List w17)(TA:Option Addr)(tc:Nat)(TL:List w17)(met:Bool):Prop where
 both:Both r g w1 S D w b b2 s s
 ok:s.Ok2
 hd:HeadAt S w HA hc HL
 hl:HL.length≤1000
 td:ToldAt w1.heap.size S D b2 w TA tc TL
 ne:∀a t,HA=some a→TA=some t→a.block≠t.block
 tn:TL=[]→TA=none
 j:OnceJ s HL TL met
theorem OnceI.below{r:ReqC}{g:CfgL}{w1:World}{b b2:Nat}{S D:List Nat}{w w':World}{s:SesL}{HA:Option Addr}{hc:Nat}{HL:List w17}{TA:Option Addr}{tc:Nat}{TL:List w17}{met:Bool}(h:OnceI r g w1 b b2 S D w s HA hc HL TA tc TL met)(hb:Below w.heap.size w w'):OnceI r g w1 b b2 S D w' s HA hc HL TA tc TL met:=⟨h.both.below hb,h.ok,h.hd.below hb,h.hl,h.td.below hb,h.ne,h.tn,h.j⟩
theorem q168{r:ReqC}{g:CfgL}{w1:World}{b b2:Nat}{S D:List Nat}{w:World}{a1 a2 a3:Int}(h:Both r g w1 S D w b b2 (newS g a1 a2 a3) (newS g a1 a2 a3))(hs:(newS g a1 a2 a3).Ok2):OnceI r g w1 b b2 S D w (newS g a1 a2 a3) none 0 [] none 0 [] false:=⟨h,hs,⟨SpT.nil0 w,(fun a h=>by cases h)⟩,by simp,ToldAt.nil,(fun a t h=>by cases h),fun _=>rfl,⟨(fun h=>by cases h),fun _=>⟨rfl,.inl rfl⟩⟩⟩
theorem w165(r:ReqC)(g:CfgL)(w0:World)(b b2:Nat)(s:SesL)(o:OpX)(hs:s.Ok2)(hok:j23 r=true):(Hid (∀S e w w',q67 r g S b s o.id (o.ob=r.ob∧MetaOk o.m) o.m o.n w e w'→∃V:Int,V≠0∧e=.returned (.tuple #[ansZ,.int .i64 V])∧k35 r g S b s w w'∧∀D e2 v v',w74 r g D b2 s o.id (o.ob=r.ob∧MetaOk o.m) o.m o.n v e2 v'→e2=.returned (.tuple #[ansZ,.int .i64 V])∧SexAt r g D v' b2 s∧Mut [b2] v v'))∨(s.st=1∧o.ob=r.ob∧MetaOk o.m):=by
 by_cases h1:s.st=1;·
  by_cases h2:o.ob=r.ob∧MetaOk o.m;·exact .inr ⟨h1,h2⟩
  ·exact .inl fun S e w w' h=>⟨1,by decide,(h.2.1 h1 h2).1,j28 (h.2.1 h1 h2).2.1 (.of_below (h.2.1 h1 h2).2.2),fun D e2 v v' h=>⟨(h.2.1 h1 h2).1,(h.2.1 h1 h2).2.1,.of_below (h.2.1 h1 h2).2.2⟩⟩
 ·exact .inl fun S e w w' h=>⟨11,by decide,(h.1 h1).1,j28 (h.1 h1).2.1 (.of_below (h.1 h1).2.2),fun D e2 v v' h=>⟨(h.1 h1).1,(h.1 h1).2.1,.of_below (h.1 h1).2.2⟩⟩
theorem OnceI.went{r:ReqC}{g:CfgL}{w1:World}{b b2:Nat}{S S1 D:List Nat}{w w' w2:World}{s s1:SesL}{HA:Option Addr}{hc:Nat}{HL:List w17}{TA:Option Addr}{tc:Nat}{TL:List w17}{met met':Bool}(h:OnceI r g w1 b b2 S D w s HA hc HL TA tc TL met)(hs:∀k∈S1,k∈S∨w.heap.size≤k)(hm:Mut S w w')(h2:Both r g w1 S1 (D++S1) w2 b b2 s1 s1)(hm2:Mut [b2] w' w2)(hok:s1.Ok2)(hk:∃cs f,w'.heap[b2]?=some (.cells cs 98 f))(hj:OnceJ s1 HL TL met'):OnceI r g w1 b b2 S1 (D++S1) w2 s1 HA hc HL TA tc TL met':=by obtain⟨cs,f,hk⟩:=hk;exact⟨h2,hok,(h.hd.ses hm hs).sex hk hm2,h.hl,(h.td.ses hm hs).sex hm2,h.ne,h.tn,hj⟩
theorem j148(r:ReqC)(A:Option Addr)(c:Nat)(A1:Option Addr)(c1:Nat)(A2:Option Addr)(c2:Nat)(a1 a2 a3:Int)(g:CfgL)(LA:Option Addr)(lc:Nat)(L:List OpX)(w:World)(h:ReqAt r w A c A1 c1 A2 c2)(hrt:r.k.rt.length≤1000000000000000)(hcs:(Lit.int .i64 g.cs).wf=true)(hL:SpG w19 27 w LA lc L)(hll:L.length≤9223372036854775807)(ho:∀o∈L,OpAt w o)(henv:Env w):Calls Tryz.prog 5 #[.agg (k57 r A c A1 c1 A2 c2 a1 a2 a3 g LA L.length lc)] w fun e w'=>e=.returned (.bool true)∧Below w.heap.size w w':=by
 have HR:=a_ h;have HE:=a_ henv;have HCS:=a_ hcs;have HSM:=fun W h1 h2 h3=>a_ (k83 r A c A1 c1 A2 c2 a1 a2 a3 g LA lc L W h1 (by omega) h2 hll h3);have HL:=a_ hL;have HO:=a_ ho;have HAW:=fun W h=>a_ (w83 W h);have HMD:=fun W h1 h2=>a_ (x94 r A c A1 c1 A2 c2 a1 a2 a3 g LA lc L W h1 h2);obtain⟨C1,hC1⟩:∃C,k57 r A c A1 c1 A2 c2 a1 a2 a3 g LA L.length lc=C:=⟨_,rfl⟩;have HC1:=a_ hC1;have H1S:Hid (C1.size=25):=by simp only[Hid];rw[←hC1];rfl
 rw[hC1]at HSM HMD⊢;clear h hrt hcs hL hll ho henv hC1;go_enter Tryz.func5,Tryz.ntmps5;go_upto_region 1 with fail;obtain⟨W0,hW0,X0,HB0⟩:=box1 w C1 54;rw[hW0];clear hW0;refine aq_ ?_;refine q165 rfl 54 (.tmp 1) rfl rfl X0.out _ Tryz.underlying54 rfl (by rw[H1S.out];exact k67) ?_;simp only[Act.put,b_,e_,d_];go_wp2_with fail;refine(HSM _ (HR.out.below HB0.out) (HL.out.below HB0.out) (fun o ho=>(HO.out o ho).below HB0.out)).out.mono ?_;rintro e w1⟨bs,rfl,hqs,hb1⟩;have HB1:=a_ (q12 hb1 HB0.out);have X1:=a_ (j3 hb1 X0.out);clear hb1 X0 HB0 HSM;cases bs with
  |false=>clear hqs;go_wp2_with(go_at_call 23;refine(HAW _ (HE.out.below HB1.out)).out.mono ?_;rintro e wz⟨rfl,hbz⟩);go_ret;exact⟨rfl,q12 hbz HB1.out⟩
  |true=>
   have HSC:=a_ (hqs rfl);have HSH:Hid (ShortR r):=HSC.out.r.short;clear hqs;go_upto_region 3 with fail;refine aq_ ?_;refine q165 rfl 54 (.tmp 1) rfl rfl X1.out _ Tryz.underlying54 rfl (by rw[H1S.out];exact k67) ?_;simp only[Act.put,b_,e_,d_];go_wp2_with fail;refine(HMD _ (HR.out.below HB1.out) HSH.out).out.mono ?_;rintro e w2⟨hno,hyes⟩;obtain⟨V,hV⟩:∃V,(j23 r&&x26 g)=V:=⟨_,rfl⟩;rw[hV]at hno hyes;have HV:=a_ hV;clear hV HMD;cases V with
    |false=>obtain⟨rfl,hb2⟩:=hno rfl;have HB2:=a_ (q12 hb2 HB1.out);clear hno hyes hb2;go_wp2_with(go_at_call 23;refine(HAW _ (HE.out.below HB2.out)).out.mono ?_;rintro e wz⟨rfl,hbz⟩);go_ret;exact⟨rfl,q12 hbz HB2.out⟩
    |true=>
     obtain⟨b,b2,rfl,hbo⟩:=hyes rfl;have HBO:=a_ hbo;have X2:=a_ (j3 hbo.bel X1.out);have HRO:Hid (j23 r=true):=by have h:=HV.out;simp only[q_]at h;exact h.1
     have HGO:Hid (x26 g=true):=by have h:=HV.out;simp only[q_]at h;exact h.2
     have HG:Hid (1≤g.j9∧g.j9≤200):=by have h:=HGO.out;unfold x26 at h;simp only[q_,p_]at h;exact⟨by omega,HSC.out.ch⟩
     have HOK0:Hid ((newS g a1 a2 a3).Ok2):=j130 HGO.out a1 a2 a3;have HL1:Hid (SpG w19 27 w1 LA lc L):=HL.out.below HB1.out;have HO1:Hid (∀o∈L,OpAt w1 o):=fun o ho=>(HO.out o ho).below HB1.out;have HE1:Hid (Env w1):=HE.out.below HB1.out;have HLN:Hid (L.length≤20):=HSC.out.l;have n24:w2.cell? ⟨w.heap.size,24,none⟩=some (.slice LA L.length lc):=j14 X2.out (by rw[←HC1.out];rfl);have nz:=q14 X2.out;clear hno hyes hbo HV HL HO HR;have HRS:Hid (r.L.length≤1000∧r.k.M.length≤1000∧r.k.N.length≤1000):=by have h:=HRO.out;have h1:=(q98 h).2;unfold j23 at h;simp only[q_]at h;have h2:=z136 h.2;simp only[Hid];omega
     go_wp2_with fail;go_loopw[6,7,8,10,11,12,13,14,15,35](fun h t m _ _ _ _ _ _ i wr=>∃(k n tn:Nat)(S D:List Nat)(s:SesL)(HA:Option Addr)(ac:Nat)(HL:List w17)(TA:Option Addr)(tc:Nat)(TL:List w17)(met:Bool),k≤L.length∧i=.int .i64 (k:Int)∧h=.slice HA n ac∧n=HL.length∧t=.slice TA tn tc∧tn=TL.length∧TL.length≤k∧m=.bool met∧OnceI r g w1 b b2 S D wr s HA ac HL TA tc TL met)(fun _ _ _ _ _ _ _ _ _ i _=>L.length-(intOf i).toNat);case atStart=>exact⟨0,_,_,_,_,_,none,0,[],none,0,[],false,s_ _,rfl,rfl,rfl,rfl,rfl,v_ _,rfl,q168 HBO.out HOK0.out⟩
     case round=>
      obtain⟨k,n,tn,S,D,s,HA,ac,HL,TA,tc,TL,met,hk,rfl,rfl,rfl,rfl,rfl,htl,rfl,hI⟩:=hrel;have HI:=a_ hI;have HTL:=a_ htl;have hbo:=hI.both;clear hI htl n24 nz;by_cases hlt:k<L.length;·
       have hk20:L.length≤20:=HLN.out;have hkk:(k:Int)<(L.length:Int):=by omega
       have HR1:Hid (k+1≤L.length):=by simp only[Hid];omega
       obtain⟨bl,off,e,hb,hc⟩:=(HL1.out.below hbo.bel).at' k hlt;subst e;have HRG:=a_ (j75 (HL1.out.below hbo.bel) hlt);have HOP:=a_ (HO1.out _ (A_ hlt));have HST:=a_ (HSC.out.o _ (A_ hlt));generalize L[k]=op at HOP HST HRG;clear hc hb;have HLT:=a_ hlt;have HBR:=a_ hbo;have HPW:Hid (wr.heap.size∉b2::S):=fun hin=>by
        rcases E_.1 hin with h|h;·have:=hbo.d.lt _ hbo.d.in_;omega
        ·have:=hbo.p.lt _ h;omega
       clear hbo;go_upto_region 11 with fail;refine aq_ ?_;refine y55 rfl (.tmp 33) (.tmp 35) rfl bl off L.length lc k rfl rfl HLT.out ?_;simp only[Act.put,b_,e_,d_];refine wpList_load_mid rfl 78 (.tmp 37) rfl bl (off+k*27) rfl (w19 op) _ HRG.out Tryz.underlying78 rfl j183 ?_;simp only[Act.put,b_,e_,d_];refine q50 rfl rfl ?_;simp only[Act.put,b_,e_,d_];refine q20 rfl 78 (.tmp 10) (.tmp 38) rfl rfl rfl (j17 rfl) rfl j183 (by simp[w19,Value.oneCell']) ?_;intro w5 hst;simp only[Act.put];have HOB:Hid (w5.heap[wr.heap.size]?=some (.cells (w19 op).toArray 78 (0,0))):=hst.blk;have HB5:Hid (Below wr.heap.size wr w5):=hst.bel wr (q11 (c_ _ _) _) (v_ _);have HBO5:=a_ (HBR.out.below HB5.out);clear hst HRG HBR;have HI5:=a_ (HI.out.below HB5.out);have HS:Hid (s.Ok2):=HI.out.ok;clear HBO5 HI;have q0:w5.cell? ⟨wr.heap.size,0,none⟩=some (.int .u8 op.kind):=j14 HOB.out rfl;have qz:=q14 HOB.out;have h1:=Int.emod_nonneg op.kind (show(7:Int)≠0 by decide);have h2:=Int.emod_lt_of_pos op.kind (show(0:Int)<7 by decide);have hm:op.kind.tmod 7=op.kind%7:=Int.tmod_eq_emod_of_nonneg HOP.out.kind.1;have hj:op.kind.tmod 7=0∨op.kind.tmod 7=1∨op.kind.tmod 7=2∨op.kind.tmod 7=3∨op.kind.tmod 7=4∨op.kind.tmod 7=5∨op.kind.tmod 7=6:=by omega
       clear h1 h2 hm;rcases hj with hm7|hm7|hm7|hm7|hm7|hm7|hm7;·
        cases met with
         |true=>
          go_wp2_with fail;go_roundw;case rel=>exact⟨k+1,_,_,_,_,_,HA,ac,HL,TA,tc,TL,true,HR1.out,by go_num,rfl,rfl,rfl,rfl,by have:=HTL.out;omega,rfl,HI5.out⟩
          case measure=>simp[intOf];omega
         |false=>
          obtain⟨E1,hE1⟩:∃E,entV op.id op.ob op.m op.KA op.kc op.x1 op.x2 op.x3 op.tu=E:=⟨_,rfl⟩;have HE1':=a_ hE1;have HES:Hid (E1.size=17):=by simp only[Hid];rw[←hE1];rfl
          clear hE1;go_upto_region 14 with fail;clear hm7 q0 qz;refine aq_ ?_;refine k183 rfl (.tmp 3) rfl ?_;simp only[Act.put,b_,e_,d_];refine w106 rfl (.tmp 10) rfl wr.heap.size rfl ?_;simp only[Act.put,b_,e_,d_];refine wpList_load_mid rfl 59 (.tmp 51) rfl wr.heap.size 1 rfl E1.toList _ (k40 HOB.out 1 (by rw[←HE1'.out];rfl)) Tryz.underlying59 rfl (by rw[Array.length_toList,HES.out];exact y149) ?_;simp only[Act.put,b_,e_,d_];have k21:w5.cell? ⟨wr.heap.size,21,none⟩=some (.int .i64 op.n):=j14 HOB.out rfl;have kz:=q14 HOB.out;go_wp2_with fail;refine(q161 r g S b s _ HI5.out.both.p E1 op.id op.ob op.m op.KA op.kc op.x1 op.x2 op.x3 op.tu HE1'.out op.n (HOP.out.below HI5.out.both.bel).k HST.out.1 (HE1.out.below HI5.out.both.bel) HOP.out.n HRO.out HSH.out HCS.out).mono ?_;intro e w6 hmp;rcases w165 r g w1 b b2 s op HS.out HRO.out with hal|⟨hst,hob,hmok⟩;·
           obtain⟨V,hV,rfl,hp,hX⟩:=hal.out _ _ _ _ hmp;have HX:=a_ hX;obtain⟨S1,h1,h2,_,hm⟩:=hp;have HBO6:=a_ (HI5.out.both.step h1 h2 hm);have HM6:=a_ hm;have HS6:=a_ h2;have HOB6:=a_ (hm.blk _ _ HOB.out (fun h=>HPW.out (as_ _ h)));clear hmp hal hX h1 h2 hm k21 kz HOB;have hV0:(V==0)=false:=by rw[l_];exact hV
           have hV1:¬V=0:=hV;clear hV;unfold ansZ;go_upto_region 15 with fail;obtain⟨W8,hW8,T8,hb⟩:=w48 w6 #[.int .i64 0,.slice none 0 0,.slice none 0 0,.int .i64 0] 69;rw[hW8];have HBO8:=a_ (HBO6.out.below hb);have X8:=a_ (j3 hb HOB6.out);have HB8:=a_ (hb);clear hW8 hb;have HTB:Hid (w6.heap.size≠b2):=by have:=HBO6.out.d.lt _ HBO6.out.d.in_;simp only[Hid];omega
           clear HBO6 HOB6;have k0:W8.cell? ⟨wr.heap.size,0,none⟩=some (.int .u8 op.kind):=j14 X8.out rfl;have k1:W8.cell? ⟨wr.heap.size,1,none⟩=some (.int .i64 op.id):=j14 X8.out rfl;have k2:W8.cell? ⟨wr.heap.size,2,none⟩=some (.string ⟨op.ob.toArray⟩):=j14 X8.out rfl;have k3:W8.cell? ⟨wr.heap.size,3,none⟩=some (.string ⟨op.m.tag.toArray⟩):=j14 X8.out rfl;have k4:W8.cell? ⟨wr.heap.size,4,none⟩=some (.bool op.m.weak):=j14 X8.out rfl;have k5:W8.cell? ⟨wr.heap.size,5,none⟩=some (.int .i64 op.m.mo):=j14 X8.out rfl;have k6:W8.cell? ⟨wr.heap.size,6,none⟩=some (.int .i64 op.m.len):=j14 X8.out rfl;have k7:W8.cell? ⟨wr.heap.size,7,none⟩=some (.int .i64 op.m.hv):=j14 X8.out rfl;have k8:W8.cell? ⟨wr.heap.size,8,none⟩=some (.int .i64 op.m.fresh):=j14 X8.out rfl;have k9:W8.cell? ⟨wr.heap.size,9,none⟩=some (.int .i64 op.m.wh):=j14 X8.out rfl;have k10:W8.cell? ⟨wr.heap.size,10,none⟩=some (.int .i64 op.m.er):=j14 X8.out rfl;have k11:W8.cell? ⟨wr.heap.size,11,none⟩=some (.slice op.KA op.m.keys.length op.kc):=j14 X8.out rfl;have k12:W8.cell? ⟨wr.heap.size,12,none⟩=some (.string ⟨op.m.ten.toArray⟩):=j14 X8.out rfl;have k13:W8.cell? ⟨wr.heap.size,13,none⟩=some (.bool op.m.keep):=j14 X8.out rfl;have k21:W8.cell? ⟨wr.heap.size,21,none⟩=some (.int .i64 op.n):=j14 X8.out rfl;have kz:=q14 X8.out;go_wp2_with fail;refine(q84 r g _ b2 s _ HBO8.out.d op.id op.ob op.m op.KA op.kc op.n (HOP.out.below HBO8.out.bel).k HST.out.1 HOP.out.n HRO.out HSH.out HCS.out (fun h=>(HS.out.ok.asks h).1)).mono ?_;intro e w9 hmx;obtain⟨rfl,hx,hm⟩:=HX.out _ _ _ _ hmx;have T9:=a_ (hm.blk _ _ T8.out (by have:=HTB.out;simpa using this));have HI9:Hid (OnceI r g w1 b b2 S1 (D++S1) w9 s none 0 [] TA tc TL false):=by have hI:=HI5.out.went HS6.out (HM6.out.bel HB8.out) (HBO8.out.doc hx hm) hm HS.out HBO8.out.docblk HI5.out.j;exact⟨hI.both,hI.ok,⟨SpT.nil0 _,(fun a h=>by cases h)⟩,by simp,hI.td,(fun a t h=>by cases h),hI.tn,hI.j.other []⟩
           clear hmx hx hm T8 HBO8 HTB X8 HI5 HM6 HS6 HX k0 k1 k2 k3 k4 k5 k6 k7 k8 k9 k10 k11 k12 k13 k21 kz;unfold ansZ;have t2:=bc 2 T9.out rfl;have tz:=q14 T9.out;go_wp2_with fail;go_roundw;case rel=>exact⟨k+1,_,_,_,_,_,none,0,([]:List w17),TA,tc,TL,false,HR1.out,by go_num,rfl,rfl,rfl,rfl,by have:=HTL.out;omega,rfl,HI9.out⟩
           case measure=>simp[intOf];omega
          ·obtain⟨a,S1,hans,hme,hsa,hS1,hm⟩:=hmp.2.2 hst ⟨hob,hmok⟩;obtain⟨FA,fa,fk,PA,pa,pk,rfl,rfl,rfl,hf,hp,hpn⟩:=hme;have HBO6:=a_ (HI5.out.both.step hsa hS1 hm);have HM6:=a_ hm;have HS6:=a_ hS1;have HOB6:=a_ (hm.blk _ _ HOB.out (fun h=>HPW.out (as_ _ h)));have HAN:=a_ hans;have HMO:=a_ hmok;have HOBJ:=a_ hob;have HSTT:=a_ hst;have HAR:Hid (allR r.L=true∧r.L.length≤70):=q98 HRO.out;have hlen:=hans.len HAR.out.2;have HBD:Hid (j29 a.ps):=hans.body hmok HAR.out.1;obtain⟨ast,FL,PL,asz⟩:=a;simp only at hf hp hlen;have HH6:Hid (HeadAt S1 w6 PA pa PL):=⟨hp,hpn⟩;have HLN2:=a_ hlen;clear hmp hans hsa hS1 hm hf hp hpn hlen hst hob hmok k21 kz HOB;go_upto_region 15 with fail;obtain⟨W8,hW8,T8,hb⟩:=w48 w6 #[.int .i64 ast,.slice FA FL.length fa,.slice PA PL.length pa,.int .i64 asz] 69;rw[hW8];have HBO8:=a_ (HBO6.out.below hb);have X8:=a_ (j3 hb HOB6.out);have HB8:=a_ (hb);have HH8:=a_ (HH6.out.below hb);clear hW8 hb;have HTB:Hid (w6.heap.size≠b2):=by have:=HBO6.out.d.lt _ HBO6.out.d.in_;simp only[Hid];omega
           clear HBO6 HOB6 HH6;have k0:W8.cell? ⟨wr.heap.size,0,none⟩=some (.int .u8 op.kind):=j14 X8.out rfl;have k1:W8.cell? ⟨wr.heap.size,1,none⟩=some (.int .i64 op.id):=j14 X8.out rfl;have k2:W8.cell? ⟨wr.heap.size,2,none⟩=some (.string ⟨op.ob.toArray⟩):=j14 X8.out rfl;have k3:W8.cell? ⟨wr.heap.size,3,none⟩=some (.string ⟨op.m.tag.toArray⟩):=j14 X8.out rfl;have k4:W8.cell? ⟨wr.heap.size,4,none⟩=some (.bool op.m.weak):=j14 X8.out rfl;have k5:W8.cell? ⟨wr.heap.size,5,none⟩=some (.int .i64 op.m.mo):=j14 X8.out rfl;have k6:W8.cell? ⟨wr.heap.size,6,none⟩=some (.int .i64 op.m.len):=j14 X8.out rfl;have k7:W8.cell? ⟨wr.heap.size,7,none⟩=some (.int .i64 op.m.hv):=j14 X8.out rfl;have k8:W8.cell? ⟨wr.heap.size,8,none⟩=some (.int .i64 op.m.fresh):=j14 X8.out rfl;have k9:W8.cell? ⟨wr.heap.size,9,none⟩=some (.int .i64 op.m.wh):=j14 X8.out rfl;have k10:W8.cell? ⟨wr.heap.size,10,none⟩=some (.int .i64 op.m.er):=j14 X8.out rfl;have k11:W8.cell? ⟨wr.heap.size,11,none⟩=some (.slice op.KA op.m.keys.length op.kc):=j14 X8.out rfl;have k12:W8.cell? ⟨wr.heap.size,12,none⟩=some (.string ⟨op.m.ten.toArray⟩):=j14 X8.out rfl;have k13:W8.cell? ⟨wr.heap.size,13,none⟩=some (.bool op.m.keep):=j14 X8.out rfl;have k21:W8.cell? ⟨wr.heap.size,21,none⟩=some (.int .i64 op.n):=j14 X8.out rfl;have kz:=q14 X8.out;go_wp2_with fail;refine(q84 r g _ b2 s _ HBO8.out.d op.id op.ob op.m op.KA op.kc op.n (HOP.out.below HBO8.out.bel).k HST.out.1 HOP.out.n HRO.out HSH.out HCS.out (fun h=>(HS.out.ok.asks h).1)).mono ?_;intro e w9 hmx;obtain⟨a',hans',hme',hsx,hm⟩:=hmx.2.2 HSTT.out ⟨HOBJ.out,HMO.out⟩;have haa:a'=⟨ast,FL,PL,asz⟩:=AnsP.one (fun x hx=>(y52 (HMO.out.hv.1) HAR.out.1 hx).2.1) hans' HAN.out;subst haa;obtain⟨GA',ga,gk,QA,qa,qk,rfl,rfl,rfl,_,_,_⟩:=hme';simp only at hsx;have T9:=a_ (hm.blk _ _ T8.out (by have:=HTB.out;simpa using this));have HI9:Hid (OnceI r g w1 b b2 S1 (D++S1) w9 (s.meetS op.id PL) PA pa PL TA tc TL true):=by have hj:=HI5.out.j.meetS HS.out HSTT.out op.id PL;have hok:=HS.out.meetS HSTT.out op.id HBD.out (by have:=HLN2.out.2;omega);have hTL:=(HI5.out.j.no rfl).1;have hTA:=HI5.out.tn hTL;obtain⟨cs,f,hk⟩:=HBO8.out.docblk;exact⟨HBO8.out.doc hsx hm,hok,HH8.out.sex hk hm,HLN2.out.2,(HI5.out.td.ses (HM6.out.bel HB8.out) HS6.out).sex hm,(fun a t _ h=>by rw[hTA]at h;cases h),HI5.out.tn,hj⟩
           clear hmx hans' hsx hm T8 HBO8 HTB X8 HI5 HM6 HS6 HAN HH8 k0 k1 k2 k3 k4 k5 k6 k7 k8 k9 k10 k11 k12 k13 k21 kz;have t2:=bc 2 T9.out rfl;have tz:=q14 T9.out;go_wp2_with fail;go_roundw;case rel=>exact⟨k+1,_,_,_,_,_,PA,pa,PL,TA,tc,TL,true,HR1.out,by go_num,rfl,rfl,rfl,rfl,by have:=HTL.out;omega,rfl,HI9.out⟩
           case measure=>simp[intOf];omega
       ·go_wp2_with fail;go_roundw;case rel=>exact⟨k+1,_,_,_,_,_,HA,ac,HL,TA,tc,TL,met,HR1.out,by go_num,rfl,rfl,rfl,rfl,by have:=HTL.out;omega,rfl,HI5.out⟩
        case measure=>simp[intOf];omega
       ·have HCL:Hid ((cano op.H).length≤10000):=by have:=k46 op.H;have:=HST.out.2.2.1;simp only[Hid];omega
        obtain⟨⟨t,u1,u2⟩,v,s',hS,hX,hw,hJ⟩:∃(p:w17)(v:Bool)(s':SesL),Hid (∀e W W',v98 r g S b s (cano op.H) W e W'→e=.returned (.tuple #[ptV p,.bool v])∧k35 r g S b s' W W')∧Hid (∀D e W W',w98 r g D b2 s (cano op.H) W e W'→e=.returned (.tuple #[ptV p,.bool v])∧SexAt r g D W' b2 s'∧Mut [b2] W W')∧Hid s'.Ok2∧Hid ((v=false→OnceJ s' HL TL met)∧(v=true→OnceJ s' HL (TL++[p]) met)):=by
         cases hn:s.nextS (cano op.H) g.j9 with
          |none=>exact⟨([],(0,0)),false,s,fun e W W' h=>h.1 hn,fun D e W W' h=>⟨(h.1 hn).1,(h.1 hn).2.1,.of_below (h.1 hn).2.2⟩,HS.out,fun _=>HI5.out.j,fun h=>by cases h⟩
          |some y=>obtain⟨p,s'⟩:=y;exact⟨p,true,s',fun e W W' h=>h.2 p s' hn,fun D e W W' h=>h.2 p s' hn,HS.out.next (j31 _) HG.out.1 hn,fun h=>(by cases h),fun _=>HI5.out.j.next HS.out (j31 _) HG.out.1 hn⟩
        go_upto_region 19 with fail;clear hm7 q0 qz;have k22:w5.cell? ⟨wr.heap.size,22,none⟩=some (.slice op.HA op.H.length op.hc):=j14 HOB.out rfl;have kz:=q14 HOB.out;go_wp2_with fail;refine(j91 op.HA op.hc op.H _ (HOP.out.below HI5.out.both.bel).h (by have:=HST.out.2.2.1;omega)).mono ?_;rintro e w6⟨A6,c6,rfl,hsp,hb6⟩;have HI6:=a_ (HI5.out.below hb6);have HOB6:=a_ (j3 hb6 HOB.out);have H6:=a_ hsp;clear hsp hb6 k22 kz HI5 HOB;go_wp2_with fail;refine(k62 r g S b s _ HI6.out.both.p A6 c6 (cano op.H) H6.out (j31 _) HCL.out ⟨HG.out.1,by have:=HG.out.2;omega⟩).mono ?_;intro e w7 hn;obtain⟨rfl,S1,h1,h2,_,hm⟩:=hS.out _ _ _ hn;have HBO7:=a_ (HI6.out.both.step h1 h2 hm);have HM7:=a_ hm;have HS7:=a_ h2;have HOB7:=a_ (hm.blk _ _ HOB6.out (fun h=>HPW.out (as_ _ h)));clear hn h1 h2 hm hS H6 HOB6;unfold ptV;simp only;go_upto_region 20 with fail;obtain⟨W8,hW8,P8,HB8⟩:=box1 w7 #[.string ⟨t.toArray⟩,.int .i64 u1,.int .i64 u2] 82;rw[hW8];have HBO8:=a_ (HBO7.out.below HB8.out);have HOB8:=a_ (j3 HB8.out HOB7.out);have HPB:Hid (w7.heap.size≠b2):=by have:=HBO7.out.d.lt _ HBO7.out.d.in_;simp only[Hid];omega
        clear hW8 HBO7 HOB7;refine aq_ ?_;refine k183 rfl (.tmp 4) rfl ?_;simp only[Act.put,b_,e_,d_];refine q165 rfl 78 (.tmp 10) rfl rfl HOB8.out _ Tryz.underlying78 rfl (by exact j183) ?_;simp only[Act.put,b_,e_,d_];go_wp2_with fail;refine(k75 op _ (HOP.out.below HBO8.out.bel) ⟨HST.out.2.2.1,HST.out.2.2.2⟩).mono ?_;rintro e w9⟨AA,aac,AB,ab,an,am,rfl,rfl,rfl,ha,_,hb⟩;have HBO9:=a_ (HBO8.out.below hb);have H9a:=a_ ha;have P9:=a_ (j3 hb P8.out);have HB9:Hid (Below w7.heap.size w7 w9):=q12 hb HB8.out;clear ha hb HBO8 HOB8 P8 HB8;go_wp2_with fail;refine(j84 r g _ b2 s _ HBO9.out.d (fun h=>(HS.out.ok.tells h).2) AA aac (cano op.H) H9a.out (j31 _) HCL.out ⟨HG.out.1,by have:=HG.out.2;omega⟩ HS.out.len).mono ?_;intro e w10 hn;obtain⟨rfl,hx,hm⟩:=hX.out _ _ _ _ hn;have HBO10:=a_ (HBO9.out.doc hx hm);have P10:=a_ (hm.blk _ _ P9.out (by have:=HPB.out;simpa using this));have HHD:Hid (HeadAt S1 w10 HA ac HL):=by obtain⟨cs,f,hk⟩:=HBO9.out.docblk;exact(HI6.out.hd.ses (HM7.out.bel HB9.out) HS7.out).sex hk hm
        have HTD:Hid (ToldAt w1.heap.size S1 (D++S1) b2 w10 TA tc TL):=(HI6.out.td.ses (HM7.out.bel HB9.out) HS7.out).sex hm;clear hn hx hm HBO9 H9a P9 HB9 hX;unfold ptV;simp only;cases v with
         |false=>
          have HI10:Hid (OnceI r g w1 b b2 S1 (D++S1) w10 s' HA ac HL TA tc TL met):=⟨HBO10.out,hw.out,HHD.out,HI6.out.hl,HTD.out,HI6.out.ne,HI6.out.tn,hJ.out.1 rfl⟩;clear HBO10 HHD HTD HI6 hJ;go_wp2_with fail;go_roundw;case rel=>exact⟨k+1,_,_,_,_,_,HA,ac,HL,TA,tc,TL,met,HR1.out,by go_num,rfl,rfl,rfl,rfl,by have:=HTL.out;omega,rfl,HI10.out⟩
          case measure=>simp[intOf];omega
         |true=>
          obtain⟨p0,p1,p2⟩:=bc3 P10.out rfl rfl rfl;have pz:=q14 P10.out;have HTN:Hid (TL.length≤20):=by have:=HTL.out;simp only[Hid];omega
          go_wp2_with(at_builtin;refine k164 (w0:=w1) elemPt rfl (.tmp 92) (.tmp 94) rfl TA tc TL rfl (HTD.out.own.alloc _) (some ⟨_,0,none⟩) 1 [(t,(u1,u2))] rfl (SpG.built (enc:=j18) (n:=3) elemPt.len _ [(t,(u1,u2))] #[.string ⟨t.toArray⟩,.int .i64 u1,.int .i64 u2] rfl 82) (by simp) (by have:=HTN.out;simp only[g_,i_];omega) (by exact q11 HBO10.out.bel _) ?_;intro A7 c7 w12 hown hbw hg hat);have hb11:Below w10.heap.size w10 (w10.alloc (.cells #[.string ⟨t.toArray⟩,.int .i64 u1,.int .i64 u2] 82)):=q11 (c_ _ _) _;obtain⟨D2,hb2,ht2,T2,hm2,hT2⟩:=y170 (HBO10.out.below hb11) (HTD.out.below hb11) hown hg hat;have HIF:Hid (OnceI r g w1 b b2 S1 D2 w12 s' HA ac HL A7 c7 (TL++[(t,(u1,u2))]) met):=by
           refine⟨hb2,hw.out,⟨(HHD.out.below hb11).sp.mut (fun a ha hin=>?_) hm2,HHD.out.ap⟩,HI6.out.hl,ht2,fun a x ha hx=>?_,fun e=>by simp at e,hJ.out.2 rfl⟩;·obtain⟨x,hx,he⟩:=hT2 _ hin;exact HI6.out.ne a x ha hx he.symm
           ·subst hx;rcases hat with e|e;·
             cases hTA:TA with
              |none=>rw[hTA]at e;simp[Value.ownBlock]at e
              |some y=>
               rw[hTA]at e;have e':x.block=y.block:=by simpa[Value.ownBlock]using e
               rw[e'];exact HI6.out.ne a y ha hTA
            ·have e':x.block=(w10.alloc (.cells #[.string ⟨t.toArray⟩,.int .i64 u1,.int .i64 u2] 82)).heap.size:=by simpa[Value.ownBlock]using e
             have:=k165 (HHD.out.below hb11).sp a ha;omega
          clear hb11 hb2 ht2 hm2 hT2 hown hbw hg hat HBO10 HHD HTD HI6 hJ;go_wp2_with fail;go_roundw;case rel=>exact⟨k+1,_,_,_,_,_,HA,ac,HL,A7,c7,TL++[(t,(u1,u2))],met,HR1.out,by go_num,rfl,rfl,rfl,by simp,by have:=HTL.out;simp;omega,rfl,HIF.out⟩
          case measure=>simp[intOf];omega
       ·go_wp2_with fail;go_roundw;case rel=>exact⟨k+1,_,_,_,_,_,HA,ac,HL,TA,tc,TL,met,HR1.out,by go_num,rfl,rfl,rfl,rfl,by have:=HTL.out;omega,rfl,HI5.out⟩
        case measure=>simp[intOf];omega
       ·go_upto_region 24 with fail;clear hm7 q0 qz;go_wp2_with fail;refine(x135 r g S b s _ HI5.out.both.p).mono ?_;rintro e w6⟨rfl,S1,h1,h2,_,hm⟩;have HBO6:=a_ (HI5.out.both.step h1 h2 hm);have HM6:=a_ hm;have HS6:=a_ h2;clear h1 h2 hm;go_wp2_with fail;refine(y135 r g _ b2 s _ HBO6.out.d).mono ?_;rintro e w7⟨rfl,hx,hm⟩;have HI7:=a_ (HI5.out.went HS6.out HM6.out (HBO6.out.doc hx hm) hm HS.out.cutS HBO6.out.docblk HI5.out.j.cutS);clear hx hm HI5 HBO6;go_wp2_with fail;go_roundw;case rel=>exact⟨k+1,_,_,_,_,_,HA,ac,HL,TA,tc,TL,met,HR1.out,by go_num,rfl,rfl,rfl,rfl,by have:=HTL.out;omega,rfl,HI7.out⟩
        case measure=>simp[intOf];omega
       ·go_wp2_with fail;go_roundw;case rel=>exact⟨k+1,_,_,_,_,_,HA,ac,HL,TA,tc,TL,met,HR1.out,by go_num,rfl,rfl,rfl,rfl,by have:=HTL.out;omega,rfl,HI5.out⟩
        case measure=>simp[intOf];omega
       ·go_wp2_with fail;go_roundw;case rel=>exact⟨k+1,_,_,_,_,_,HA,ac,HL,TA,tc,TL,met,HR1.out,by go_num,rfl,rfl,rfl,rfl,by have:=HTL.out;omega,rfl,HI5.out⟩
        case measure=>simp[intOf];omega
      ·have HI6:=a_ HI.out;have HB6:Hid (Below w.heap.size w wr):=q12 hbo.bel HB1.out;have hkk:¬(k:Int)<(L.length:Int):=by omega
       have HWH:Hid (∀W,SesAt r g S W b s→Hid (Calls Tryz.prog 29 #[.pointer (some ⟨b,0,none⟩)] W fun e w'=>e=.returned (.bool (decide (s.st=3)&&!s.cut))∧w'=W)):=fun W h=>a_ (w58 r g S b s W h);obtain⟨v,hv⟩:∃v,(decide (s.st=3)&&!s.cut)=v:=⟨_,rfl⟩;obtain⟨R,hR1,hR2⟩:=HI.out.j.done;rw[hv]at HWH hR2;have HR:=a_ hR1;have HRA:=a_ hR2;clear hbo hv hR1 hR2;have HBG:Hid (∀al,(al=true→R=[])→Hid (Calls Tryz.prog 36 #[.slice HA HL.length ac,.slice TA TL.length tc,.bool al] wr fun e w'=>e=.returned (.bool true)∧Below wr.heap.size wr w')):=fun al hal=>a_ (x165 HA ac HL TA tc TL al R wr HI6.out.hd.sp.sp (OwnG.spt elemPt.len HI6.out.td.own).sp HR.out hal (by have:=HI6.out.hl;omega) (by have:=HTL.out;have:=HLN.out;omega));have HSM:=fun W h=>a_ (j167 r g w1 S D b b2 s W h HI6.out.ok HRS.out);cases met with
        |false=>go_upto_region 29 with(go_at_call 36;refine(HBG.out false (fun h=>by cases h)).out.mono ?_;rintro e w7⟨rfl,hb7⟩;have HB7:=a_ (q12 hb7 HB6.out);have HBO7:=a_ (HI6.out.both.below hb7));go_wp2_with(first|(go_at_call 37;refine(HSM _ HBO7.out).out.mono ?_;rintro e w8⟨rfl,hb8⟩;have HB8:=a_ (q12 hb8 HB7.out))|(go_at_call 23;refine(HAW _ (HE.out.below HB8.out)).out.mono ?_;rintro e wz⟨rfl,hbz⟩));go_ret;exact⟨rfl,q12 hbz HB8.out⟩
        |true=>
         have hal:v=true→R=[]:=by have:=HRA.out;simpa using this
         have HAL:=a_ hal;clear hal;go_upto_region 29 with(first|(go_at_call 29;refine(HWH.out _ HI6.out.both.p).out.mono ?_;rintro e w6⟨rfl,hw6⟩;obtain rfl:wr=w6:=hw6.symm)|(go_at_call 36;refine(HBG.out v HAL.out).out.mono ?_;rintro e w7⟨rfl,hb7⟩;have HB7:=a_ (q12 hb7 HB6.out);have HBO7:=a_ (HI6.out.both.below hb7)));go_wp2_with(first|(go_at_call 37;refine(HSM _ HBO7.out).out.mono ?_;rintro e w8⟨rfl,hb8⟩;have HB8:=a_ (q12 hb8 HB7.out))|(go_at_call 23;refine(HAW _ (HE.out.below HB8.out)).out.mono ?_;rintro e wz⟨rfl,hbz⟩));go_ret;exact⟨rfl,q12 hbz HB8.out⟩
end Go.Proofs.YtbphndihjdiiiaaGreatDoor
