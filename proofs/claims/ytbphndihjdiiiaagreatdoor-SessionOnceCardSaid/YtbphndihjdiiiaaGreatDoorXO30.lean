/- Plain: how a session goes on, what its fence tells, and what is told of its .. -/
import Derived.Test.YtbphndihjdiiiaaGreatDoorXO24
import Derived.Test.YtbphndihjdiiiaaGreatDoorXO19
import Derived.Test.YtbphndihjdiiiaaGreatDoorXO11
import Derived.Test.YtbphndihjdiiiaaGreatDoorXF0
import Derived.Test.YtbphndihjdiiiaaGreatDoorXO22
import Derived.BigRegion
set_option maxHeartbeats 16000000
set_option maxRecDepth 100000
set_option linter.all false
namespace Go.Proofs.YtbphndihjdiiiaaGreatDoor
open Go.RowKit
def SesL.nextS(s:SesL)(H:List (Int×Int))(cs:Int):Option (w17×SesL):=if s.st=2 then(w43 H cs s.lf).map fun x=>(x.1,if x.2=[]then{s with st:=3,en:=0,lf:=[],told:=true}else{s with lf:=x.2,told:=true})else none
structure SesL.Ok(s:SesL):Prop where
 st:s.st=1∨s.st=2∨s.st=3
 tells:s.st=2→s.lf≠[]∧j29 s.lf
 asks:s.st=1→s.told=false∧s.cut=false
 over:s.st≠2→s.en=0
 ag:0≤s.ag∧s.ag≤100
theorem bc25 {w : World} {g : Nat} {t : TypeId} {f : Nat × Nat} {v0 v1 v2 v3 v4 v5 v6 v7 v8 v9 v10 v11 v12 v13 v14 v15 v16 v17 v18 v19 v20 v21 v22 v23 v24 : Value} (h : w.heap[g]? = some (.cells #[v0,v1,v2,v3,v4,v5,v6,v7,v8,v9,v10,v11,v12,v13,v14,v15,v16,v17,v18,v19,v20,v21,v22,v23,v24] t f)):w.cell? ⟨g,0,none⟩=some v0∧w.cell? ⟨g,1,none⟩=some v1∧w.cell? ⟨g,2,none⟩=some v2∧w.cell? ⟨g,3,none⟩=some v3∧w.cell? ⟨g,4,none⟩=some v4∧w.cell? ⟨g,5,none⟩=some v5∧w.cell? ⟨g,6,none⟩=some v6∧w.cell? ⟨g,7,none⟩=some v7∧w.cell? ⟨g,8,none⟩=some v8∧w.cell? ⟨g,9,none⟩=some v9∧w.cell? ⟨g,10,none⟩=some v10∧w.cell? ⟨g,11,none⟩=some v11∧w.cell? ⟨g,12,none⟩=some v12∧w.cell? ⟨g,13,none⟩=some v13∧w.cell? ⟨g,14,none⟩=some v14∧w.cell? ⟨g,15,none⟩=some v15∧w.cell? ⟨g,16,none⟩=some v16∧w.cell? ⟨g,17,none⟩=some v17∧w.cell? ⟨g,18,none⟩=some v18∧w.cell? ⟨g,19,none⟩=some v19∧w.cell? ⟨g,20,none⟩=some v20∧w.cell? ⟨g,21,none⟩=some v21∧w.cell? ⟨g,22,none⟩=some v22∧w.cell? ⟨g,23,none⟩=some v23∧w.cell? ⟨g,24,none⟩=some v24:=⟨bc 0 h rfl,bc 1 h rfl,bc 2 h rfl,bc 3 h rfl,bc 4 h rfl,bc 5 h rfl,bc 6 h rfl,bc 7 h rfl,bc 8 h rfl,bc 9 h rfl,bc 10 h rfl,bc 11 h rfl,bc 12 h rfl,bc 13 h rfl,bc 14 h rfl,bc 15 h rfl,bc 16 h rfl,bc 17 h rfl,bc 18 h rfl,bc 19 h rfl,bc 20 h rfl,bc 21 h rfl,bc 22 h rfl,bc 23 h rfl,bc 24 h rfl⟩
theorem SesL.Ok.cut{s:SesL}(h:s.Ok):s.cutS.Ok:=by
 unfold SesL.cutS;split;·exact h
 ·exact⟨.inr (.inr rfl),fun h=>absurd h (by simp),fun h=>absurd h (by simp),fun _=>rfl,h.ag⟩
theorem SesL.Ok.fail{s:SesL}(h:s.Ok)(h1:s.st=1):s.failS.Ok:=⟨.inr (.inr rfl),fun h=>absurd h (by simp[SesL.failS]),fun h=>absurd h (by simp[SesL.failS]),fun _=>h.over (by omega),h.ag⟩
theorem SesL.Ok.meet{s:SesL}(h:s.Ok)(id:Int){ps:List w17}(hb:j29 ps):(s.meetS id ps).Ok:=by
 unfold SesL.meetS;split;·exact⟨.inr (.inr rfl),fun h=>absurd h (by simp),fun h=>absurd h (by simp),fun _=>rfl,h.ag⟩
 ·next hne=>exact⟨.inr (.inl rfl),fun _=>⟨hne,hb⟩,fun h=>absurd h (by simp),fun h=>absurd rfl h,h.ag⟩
theorem SesL.Ok.next{s s':SesL}{H:List (Int×Int)}{cs:Int}{p:w17}(h:s.Ok)(hc:Canon H)(hcs:1≤cs)(hn:s.nextS H cs=some (p,s')):s'.Ok∧k58 p:=by
 unfold SesL.nextS at hn;split at hn;·
  next h2=>
   obtain⟨⟨q,L⟩,hq,he⟩:=bd_.1 hn;obtain⟨h3,h4⟩:=j126 hc hcs (h.tells h2).2 hq;simp only[Prod.mk.injEq]at he;obtain⟨rfl,rfl⟩:=he;refine⟨?_,h4⟩;split;·exact⟨.inr (.inr rfl),fun h=>absurd h (by simp),fun h=>absurd h (by simp),fun _=>rfl,h.ag⟩
   ·next hne=>exact⟨.inr (.inl h2),fun _=>⟨hne,h3⟩,fun h1=>absurd (h2.symm.trans h1) (by decide),fun h1=>absurd h2 h1,h.ag⟩
 ·cases hn
theorem SesL.Ok.anew{s:SesL}(h:s.Ok)(a1 a2 a3:Int)(hm:s.mayAnew)(hcut:s.cut=false):(s.anewS a1 a2 a3).Ok:=by obtain⟨h1,h2,h3⟩:=hm;exact⟨.inl rfl,fun h=>absurd h (by simp[SesL.anewS]),fun _=>⟨h2,hcut⟩,fun _=>rfl,by have:=h.ag;simp only[SesL.anewS];omega⟩
def step1(x:w17)(r:List w17)(p:w17):Option (List w17):=if x.1=[]then if p.1=[]∧p.2.1=x.2.1∧p.2.2≤x.2.2∧p.2.1<p.2.2 then some (if p.2.2=x.2.2 then r else([],(p.2.2,x.2.2))::r)else none else if p.1≠[]∧p.1.length≤x.1.length∧x.1.take p.1.length=p.1 then some (if x.1.drop p.1.length=[]then r else(x.1.drop p.1.length,x.2)::r)else none
def w13:List w17→List w17→Option (List w17)|L,[]=>some L|[],_::_=>none|x::r,p::T=>(step1 x r p).bind fun L=>w13 L T
theorem y146{T:List w17}{p:w17}:∀{L:List w17},w13 L (T++[p])=(w13 L T).bind fun L'=>w13 L' [p]:=by
 induction T with
  |nil=>intro L;simp[w13]
  |cons q T ih=>
   intro L;cases L with
    |nil=>simp[w13]
    |cons x r=>simp only[ap_,w13];cases step1 x r q with|none=>rfl|some L2=>exact ih
theorem k170{H:List (Int×Int)}(hc:Canon H){cs:Int}(hcs:1≤cs){L L':List w17}{p:w17}(hL:j29 L)(h:w43 H cs L=some (p,L')):w13 L [p]=some L':=by
 cases L with
  |nil=>cases h
  |cons q r=>
   obtain⟨h1,h2,h3⟩:=hL;change j182 H cs q r=some (p,L')at h;have hb:w13 (q::r) [p]=step1 q r p:=by simp only[w13];cases step1 q r p<;>rfl
   rw[hb];unfold j182 at h;unfold step1;rcases h1 with⟨a1,a2⟩|⟨a1,a2,a3⟩;·
    rw[w_ a1]at h⊢;injection h with h;injection h with h4 h5;have hq:0<q.1.length:=bb_.2 a1;have hlen:(q.1.take cs.toNat).length=min cs.toNat q.1.length:=H_;rw[←h4,←h5];simp only;have hne:q.1.take cs.toNat≠[]:=fun e=>by
     rcases List.take_eq_nil_iff.1 e with e|e;·omega
     ·exact a1 e
    rw[B_ ⟨hne,by rw[hlen];omega,by rw[hlen,List.take_eq_take_iff];omega⟩,hlen];by_cases hle:q.1.length≤cs.toNat;·rw[B_ hle,B_ (bi_.2 (by omega))]
    ·rw[w_ hle,w_ (fun e=>hle (by have:=bi_.1 e;omega)),bp_ (by omega)]
   ·rw[B_ a1]at h⊢;have hT:=j87 hc hcs a3;split at h;·cases h
    ·next hne=>injection h with h;injection h with h4 h5;have hlo:=hT.lo;have hhi:=hT.hi;rw[←h4,←h5];simp only;rw[B_ ⟨trivial,trivial,hhi,by omega⟩]
structure SesL.Forth(s s':SesL)(anew:Bool):Prop where
 over:s.st=3→s'=s
 forth:anew=false→s.st≤s'.st
theorem SesL.Forth.refl(s:SesL)(a:Bool):s.Forth s a:=⟨fun _=>rfl,fun _=>an_ _⟩
structure Both(r:ReqC)(g:CfgL)(w0:World)(S D:List Nat)(w:World)(b b2:Nat)(s x:SesL):Prop where
 p:SesAt r g S w b s
 d:SexAt r g D w b2 x
 sub:∀k∈S,k∈D
 ne:b2∉S
 low:∀k∈D,w0.heap.size≤k
 bel:Below w0.heap.size w0 w
section
variable{r:ReqC}{g:CfgL}{w0:World}{S S' D:List Nat}{w w':World}{b b2:Nat}{s s' x x':SesL}
theorem Both.step(h:Both r g w0 S D w b b2 s x)(h1:SesAt r g S' w' b s')(h2:∀k∈S',k∈S∨w.heap.size≤k)(hm:Mut S w w'):Both r g w0 S' (D++S') w' b b2 s' x:=by
 have hlow:∀k∈D++S',w0.heap.size≤k:=fun k hk=>by
  rcases z_.1 hk with hk|hk;·exact h.low k hk
  ·rcases h2 k hk with h3|h3;·exact h.low k (h.sub k h3)
   ·have:=h.bel.size;omega
 have hne:b2∉S':=fun hin=>by
  rcases h2 _ hin with h3|h3;·exact h.ne h3
  ·have:=h.d.lt _ h.d.in_;omega
 refine⟨h1,h.d.mut hm h.sub h.ne (z_.2 (.inl h.d.in_)) (fun k hk=>?_) (fun k hk=>?_),fun k hk=>z_.2 (.inr hk),hne,hlow,?_⟩;·
  rcases z_.1 hk with hk|hk;·exact P_ (h.d.lt k hk) hm.size
  ·exact h1.lt k hk
 ·rcases z_.1 hk with hk|hk;·exact .inl hk
  ·exact(h2 k hk).imp_left (h.sub k)
 ·exact h.bel.trans (hm.below (fun k hk=>h.low k (h.sub k hk)) h.bel.size)
theorem Both.post(h:Both r g w0 S D w b b2 s x)(hp:k35 r g S b s' w w'):∃S' D',Both r g w0 S' D' w' b b2 s' x:=by obtain⟨S',h1,h2,_,hm⟩:=hp;exact⟨S',_,h.step h1 h2 hm⟩
theorem Both.doc(h:Both r g w0 S D w b b2 s x)(h1:SexAt r g D w' b2 x')(hm:Mut [b2] w w'):Both r g w0 S D w' b b2 s x':=by obtain⟨A,c,A1,c1,A2,c2,B,d,n,hk,_,_⟩:=h.d.blk;exact⟨h.p.mut1 hk hm,h1,h.sub,h.ne,h.low,h.bel.trans (hm.below (fun k hk=>by rw[G_]at hk;rw[hk];exact h.low _ h.d.in_) h.bel.size)⟩
theorem Both.below(h:Both r g w0 S D w b b2 s x)(hb:Below w.heap.size w w'):Both r g w0 S D w' b b2 s x:=⟨h.p.alloc hb,h.d.alloc hb,h.sub,h.ne,h.low,q12 hb h.bel⟩
theorem Both.start{a1 a2 a3:Int}{w1:World}(h1:SesAt r g [b] w b (newS g a1 a2 a3))(hb1:w0.heap.size≤b)(hb:Below w0.heap.size w0 w)(h2:SexAt r g [b2,b] w1 b2 (newS g a1 a2 a3))(hb2:w.heap.size≤b2)(hw:Below w.heap.size w w1):Both r g w0 [b] [b2,b] w1 b b2 (newS g a1 a2 a3) (newS g a1 a2 a3):=by have hlt:=h1.lt b (by simp);have hsz:=hb.size;refine⟨h1.alloc hw,h2,by simp,by simp;omega,?_,q12 hw hb⟩;intro k hk;simp only[E_,O_,aL_]at hk;rcases hk with rfl|rfl<;>omega
end
structure OpX where
 kind:Int
 id:Int
 ob:List UInt8
 m:MetaL
 KA:Option Addr
 kc:Nat
 x1:Int
 x2:Int
 x3:Int
 tu:Bool
 a1:Int
 a2:Int
 a3:Int
 n:Int
 HA:Option Addr
 hc:Nat
 H:List (Int×Int)
 FA:Option Addr
 fc:Nat
 F:List (Int×Int)
 tr:Bool
 fa:Bool
 jo:Bool
instance:Inhabited OpX:=⟨⟨0,0,[],⟨[],false,0,0,0,0,0,0,[],[],false⟩,none,0,0,0,0,false,0,0,0,0,none,0,[],none,0,[],false,false,false⟩⟩
def w19(o:OpX):List Value:=[.int .u8 o.kind,.int .i64 o.id,.string ⟨o.ob.toArray⟩,.string ⟨o.m.tag.toArray⟩,.bool o.m.weak,.int .i64 o.m.mo,.int .i64 o.m.len,.int .i64 o.m.hv,.int .i64 o.m.fresh,.int .i64 o.m.wh,.int .i64 o.m.er,.slice o.KA o.m.keys.length o.kc,.string ⟨o.m.ten.toArray⟩,.bool o.m.keep,.int .i64 o.x1,.int .i64 o.x2,.int .i64 o.x3,.bool o.tu,.int .i64 o.a1,.int .i64 o.a2,.int .i64 o.a3,.int .i64 o.n,.slice o.HA o.H.length o.hc,.slice o.FA o.F.length o.fc,.bool o.tr,.bool o.fa,.bool o.jo]
structure OpAt(w:World)(o:OpX):Prop where
 k:SpG encT 1 w o.KA o.kc o.m.keys
 h:Sp w o.HA o.hc o.H
 f:Sp w o.FA o.fc o.F
 kind:0≤o.kind∧o.kind≤255
 n:-9223372036854775808≤o.n∧o.n≤9223372036854775807
 hl:o.H.length≤9223372036854775807
 fl:o.F.length≤9223372036854775807
 kl:o.m.keys.length≤9223372036854775807
theorem OpAt.below{w w':World}{o:OpX}(h:OpAt w o)(hb:Below w.heap.size w w'):OpAt w' o:=⟨h.k.below hb,h.h.below hb,h.f.below hb,h.kind,h.n,h.hl,h.fl,h.kl⟩
def q43(o:OpX):Prop:=j46 o.m∧o.ob.length≤100∧o.H.length≤8∧o.F.length≤8
def k57(r:ReqC)(A:Option Addr)(c:Nat)(A1:Option Addr)(c1:Nat)(A2:Option Addr)(c2:Nat)(a1 a2 a3:Int)(g:CfgL)(LA:Option Addr)(ln lc:Nat):Array Value:=#[.bool r.hd,.string ⟨r.ob.toArray⟩,.slice A r.L.length c,.slice A1 r.k.M.length c1,.slice A2 r.k.N.length c2,.bool r.k.am,.bool r.k.an,.int .i64 r.k.si,.int .i64 r.k.un,.string ⟨r.k.rt.toArray⟩,.bool r.k.rw,.int .i64 a1,.int .i64 a2,.int .i64 a3,.int .i64 g.j0,.int .i64 g.j1,.int .i64 g.j2,.int .i64 g.cs,.int .i64 g.j4,.int .i64 g.j5,.int .i64 g.j6,.int .i64 g.j7,.int .i64 g.j8,.int .i64 g.j9,.slice LA ln lc]
theorem q137{H:List (Int×Int)}{p:w17}(h:p.1≠[]):x46 H p=some p:=by unfold x46;rw[w_ h]
theorem j137{H:List (Int×Int)}{p:w17}{r:List w17}{cs:Int}(h:x46 H p=none):j182 H cs p r=none:=by
 unfold x46 at h;split at h;·
  next hp=>
   have hn:toN H cs p.2.1 p.2.2=p.2.1:=by
    unfold toN;split at h;·
     next x hx=>
      rw[hx];simp only;split at h;·cases h
      ·next hne=>rw[w_ hne]
    ·next hx=>rw[hx]
   unfold j182;rw[B_ hp,B_ hn]
 ·cases h
theorem v137{H:List (Int×Int)}(hc:Canon H){p q:w17}{cs:Int}(hcs:1≤cs)(hp:p.1=[])(ho:k58 p)(h:x46 H p=some q):∃e,q=([],(p.2.1,e))∧p.2.1<e∧e≤p.2.2∧toN H cs p.2.1 p.2.2=min e (p.2.1+cs)∧0≤p.2.1∧p.2.2≤4611686018427387904:=by
 rcases ho with⟨h1,_⟩|⟨_,h1,h2⟩;·exact absurd hp h1
 obtain⟨o1,o2,o3⟩:=(j19 p.2).1 h1;unfold x46 at h;rw[B_ hp]at h;unfold toN;rcases x71 hc p.2.1 with⟨hf,_⟩|⟨x,_,hf,hx,_,_,_⟩;·rw[hf]at h;cases h
 ·rw[hf]at h⊢;simp only at h⊢;split at h;·
   next hm=>injection h with h;exact⟨min p.2.2 x.2,h.symm,by omega,by omega,by rw[B_ hm],o1,o3⟩
  ·cases h
theorem j94{H:List (Int×Int)}{cs:Int}{p:w17}{r:List w17}(h:p.1≠[]):j182 H cs p r=some ((p.1.take cs.toNat,p.2),if p.1.length≤cs.toNat then r else(p.1.drop cs.toNat,p.2)::r):=by unfold j182;rw[w_ h]
theorem x57{H:List (Int×Int)}{cs n:Int}{p:w17}{r:List w17}(h:p.1=[])(hn:toN H cs p.2.1 p.2.2=n)(hne:n≠p.2.1):j182 H cs p r=some (([],(p.2.1,n)),if n=p.2.2 then r else([],(n,p.2.2))::r):=by unfold j182;rw[B_ h,hn,w_ hne]
theorem SpG.cell{α:Type}{en:α→List Value}{n:Nat}{w:World}{g off c:Nat}{L:List α}(h:SpG en n w (some ⟨g,off,none⟩) c L){k j:Nat}{v:Value}(hk:k<L.length)(hv:(en L[k])[j]?=some v):w.cell? ⟨g,off+k*n+j,none⟩=some v:=by obtain⟨b',off',e',hb',hcell⟩:=h.at' k hk;injection e' with e';injection e' with e1 e2 _;subst e1 e2;exact hcell j v hv
theorem SpG.of_nil{α:Type}{en:α→List Value}{n:Nat}{w:World}(a:Addr)(c:Nat):SpG en n w (some a) c ([]:List α):=⟨s_ _,(fun e=>by cases e),fun k hk=>absurd hk (Nat.not_lt_zero k)⟩
def z115:Array Value:=#[.string ⟨#[]⟩,.int .i64 0,.int .i64 0]
def ptV(p:w17):Value:=.agg #[.string ⟨p.1.toArray⟩,.int .i64 p.2.1,.int .i64 p.2.2]
def j159(S:List Nat)(bb:Nat)(H:List (Int×Int))(cs:Int)(L:List w17)(w:World)(e:Ending)(w':World):Prop:=(w43 H cs L=none→e=.returned (.tuple #[ptV ([],(0,0)),.bool false])∧Below w.heap.size w w')∧(∀p L',w43 H cs L=some (p,L')→e=.returned (.tuple #[ptV p,.bool true])∧BodyAt S w' bb L'∧Mut S w w')
theorem q75(S:List Nat)(bb:Nat)(L:List w17)(w:World)(h:BodyAt S w bb L)(hok:j29 L)(HA:Option Addr)(hc:Nat)(H:List (Int×Int))(hsp:Sp w HA hc H)(hcan:Canon H)(hl:H.length≤10000)(cs:Int)(hcs:1≤cs∧cs≤4611686018427387904):Calls Tryz.prog 75 #[.pointer (some ⟨bb,0,none⟩),.agg #[.slice HA H.length hc],.int .i64 cs] w (j159 S bb H cs L w):=by
 obtain⟨A,c,n,hn,sent,hb,hrow⟩:=h.blk;have HI:=a_ h.in_;have HB:=a_ hb;have HS:=a_ hsp;have HC:=a_ hcs;have HCN:=a_ hcan;have c0:w.cell? ⟨bb,0,none⟩=some (.slice A n c):=j14 hb rfl;have c1:w.cell? ⟨bb,1,none⟩=some (.int .i64 sent):=j14 hb rfl;have cz:=q14 hb;have hcs1:¬cs<1:=by omega
 cases L with
  |nil=>obtain rfl:n=0:=hn;clear h hb hsp hcs hcan hrow hok;go_enter Tryz.func75,Tryz.ntmps75;go_wp2_with fail;refine u_ (by simp[results,bO_,go_sem];try rfl) rfl ?_;exact⟨fun _=>⟨rfl,q11 (q11 (c_ _ _) _) _⟩,fun p L' h=>by cases h⟩
  |cons p r=>
   obtain⟨g,off,C,hA,hg,hgS⟩:=hrow.own (by simp);have hsr:=hrow.sp;rw[hA]at hsr c0 hb;subst hn;clear c0;have c0:w.cell? ⟨bb,0,none⟩=some (.slice (some ⟨g,off,none⟩) (r.length+1) c):=j14 hb rfl;obtain⟨hp,hop,hbr⟩:=hok;obtain⟨t,x1,x2⟩:=p;obtain⟨b',off',e',hb',hcell⟩:=hsr.at' 0 (by simp);injection e' with e';injection e' with e1 e2 _;subst e1 e2;have d0:w.cell? ⟨g,off,none⟩=some (.string ⟨t.toArray⟩):=by have:=hcell 0 _ rfl;simpa using this
   have d1:w.cell? ⟨g,off+1,none⟩=some (.int .i64 x1):=by have:=hcell 1 _ rfl;simpa using this
   have d2:w.cell? ⟨g,off+2,none⟩=some (.int .i64 x2):=by have:=hcell 2 _ rfl;simpa using this
   have HSR:=a_ hsr;have HG:=a_ hg;have HGS:=a_ hgS;have HPO:=a_ hp;have HBB:Hid (w.heap[bb]?=some (.cells #[.slice (some ⟨g,off,none⟩) (r.length+1) c,.int .i64 sent] 183 (0,0))):=by have h2:=HB.out;rw[hA]at h2;exact h2
   have hgb:g≠bb:=k36 hg HBB.out (by decide);have HGB:=a_ hgb;have HRD:=fun W h=>a_ (z149 t x1 x2 HA hc H W h hcan hl);clear h hb hsp hcs hcan hrow hA hsr hg hgS hp hop hbr hb' hcell hgb HB;have dz:=q14 HG.out;have hr0:¬((r.length:Int)+1=0):=by omega
   obtain⟨rd,hrd⟩:∃o,x46 H (t,(x1,x2))=o:=⟨_,rfl⟩;have HRE:=a_ hrd;rw[hrd]at HRD;clear hrd;go_enter Tryz.func75,Tryz.ntmps75;go_upto_region 3 with fail;obtain⟨W0,hW0,X0,X1,HB0⟩:=box2 w #[.slice HA H.length hc] 26 #[.string ⟨#[]⟩,.int .i64 0,.int .i64 0] 82;rw[hW0];clear hW0 c0 c1 d0 d1 d2 cz dz;have KB:Hid (W0.heap[bb]?=some (.cells #[.slice (some ⟨g,off,none⟩) (r.length+1) c,.int .i64 sent] 183 (0,0))):=j3 HB0.out HBB.out;have KG:=a_ (j3 HB0.out HG.out);have KR:=a_ (HSR.out.below HB0.out);have c0:W0.cell? ⟨bb,0,none⟩=some (.slice (some ⟨g,off,none⟩) (r.length+1) c):=j14 KB.out rfl;have hk0:(0:Int)<(r.length:Int)+1:=by omega
   have HD:Hid (W0.cell? ⟨bb,0,none⟩=some (.slice (some ⟨g,off,none⟩) (r.length+1) c)∧W0.cell? ⟨g,off,none⟩=some (.string ⟨t.toArray⟩)∧W0.cell? ⟨g,off+1,none⟩=some (.int .i64 x1)∧W0.cell? ⟨g,off+2,none⟩=some (.int .i64 x2)∧W0.cell? ⟨w.heap.size,0,none⟩=some (.slice HA H.length hc)):=⟨c0,by have:=KR.out.cell (k:=0) (j:=0) (v:=.string ⟨t.toArray⟩) (by simp) rfl;simpa using this,by have:=KR.out.cell (k:=0) (j:=1) (v:=.int .i64 x1) (by simp) rfl;simpa using this,by have:=KR.out.cell (k:=0) (j:=2) (v:=.int .i64 x2) (by simp) rfl;simpa using this,j14 X0.out rfl⟩;clear c0;rcases rd with _|⟨t',y1,y2⟩;all_goals unfold encR at HRD
   ·skip;go_cut[8,9](fun s8 s9 wx=>∃pb:Nat,s8=.pointer (some ⟨pb,0,none⟩)∧s9=.bool false∧W0.heap.size≤pb∧wx.heap[pb]?=some (.cells #[.string ⟨#[]⟩,.int .i64 0,.int .i64 0] 82 (0,0))∧Below W0.heap.size W0 wx);case first=>
     go_region_held3(fun w'=>w'.cell? ⟨bb,0,none⟩=some (.slice (some ⟨g,off,none⟩) (r.length+1) c)∧w'.cell? ⟨g,off,none⟩=some (.string ⟨t.toArray⟩)∧w'.cell? ⟨g,off+1,none⟩=some (.int .i64 x1)∧w'.cell? ⟨g,off+2,none⟩=some (.int .i64 x2)∧w'.cell? ⟨w.heap.size,0,none⟩=some (.slice HA H.length hc))(((try dsimp only);refine⟨x16 (W:=W0) ?_ HD.out.1,x16 (W:=W0) ?_ HD.out.2.1,x16 (W:=W0) ?_ HD.out.2.2.1,x16 (W:=W0) ?_ HD.out.2.2.2.1,x16 (W:=W0) ?_ HD.out.2.2.2.2⟩<;>(repeat(first|exact c_ _ _|exact hbw|refine q15 ?_ _|refine x15 ?_|refine q11 ?_ _|refine w14 ?_ (by first|exact v_ _|omega|(dsimp only;omega)|(simp;omega)) _))))(first
      |(go_at_call 143;refine(HRD _ (HS.out.below (by repeat(first|exact HB0.out|refine x15 ?_|refine q11 ?_ _)))).out.mono ?_;rintro e w1⟨rfl,hb1⟩;have hbw:Below W0.heap.size W0 w1:=q12 hb1 (by repeat(first|exact c_ _ _|refine x15 ?_|refine q11 ?_ _));have ZB:Hid (w1.heap[W0.heap.size]?=some (.cells z115 82 (0,0))):=j3 hb1 (j17 (w:=W0.drew) rfl);have z0:w1.cell? ⟨W0.heap.size,0,none⟩=some (.string ⟨#[]⟩):=j14 ZB.out rfl;have z1:w1.cell? ⟨W0.heap.size,1,none⟩=some (.int .i64 0):=j14 ZB.out rfl;have z2:w1.cell? ⟨W0.heap.size,2,none⟩=some (.int .i64 0):=j14 ZB.out rfl;have zf0:=q13 (i:=0) ZB.out;have zf1:=q13 (i:=1) ZB.out;have zf2:=q13 (i:=2) ZB.out;have zz:=q14 ZB.out;clear hb1)
      |(go_at_call 143;refine(HRD _ (HS.out.below (by repeat(first|exact HB0.out|refine x15 ?_|refine q11 ?_ _)))).out.mono ?_;rintro e w1⟨rfl,hb1⟩;have hbw:Below W0.heap.size W0 w1:=q12 hb1 (by repeat(first|exact c_ _ _|refine x15 ?_|refine q11 ?_ _));clear hb1));all_goals go_wp2_with fail
     all_goals go_meet
     all_goals first|exact⟨_,rfl,rfl,hbw.size,j17 rfl,q11 hbw _⟩|exact⟨_,rfl,rfl,v_ _,j15 (j15 (j15 ZB.out)),w14 (w14 (w14 hbw (v_ _) _) (v_ _) _) (v_ _) _⟩
    case rest=>
     obtain⟨pb,rfl,rfl,hpb,hpk,hbx⟩:=hcut;have HPB:=a_ hpk;have KPB:=a_ hpb;have HB2:=a_ hbx;clear hpb hpk hbx;have HV:Hid (w43 H cs ((t,(x1,x2))::r)=none):=j137 HRE.out;have Z1:Hid (wc.heap[w.heap.size+1]?=some (.cells #[.string ⟨#[]⟩,.int .i64 0,.int .i64 0] 82 (0,0))):=j3 HB2.out X1.out;obtain⟨z0,z1,z2⟩:=bc3 Z1.out rfl rfl rfl;have zf0:=q13 (i:=0) Z1.out;have zf1:=q13 (i:=1) Z1.out;have zf2:=q13 (i:=2) Z1.out;have zz:=q14 Z1.out;go_wp2_with fail;obtain⟨W4,hW4⟩:∃W,((wc.setCell ⟨w.heap.size+1,0,none⟩ (.string ⟨#[]⟩)).setCell ⟨w.heap.size+1,1,none⟩ (.int .i64 0)).setCell ⟨w.heap.size+1,2,none⟩ (.int .i64 0)=W:=⟨_,rfl⟩;have X4:Hid (W4.heap[w.heap.size+1]?=some (.cells #[.string ⟨#[]⟩,.int .i64 0,.int .i64 0] 82 (0,0))):=by rw[←hW4];exact j15 (j15 (j15 Z1.out))
     have HB4:Hid (Below w.heap.size w W4):=by rw[←hW4];exact w14 (w14 (w14 (q12 HB2.out HB0.out) (D_ _) _) (D_ _) _) (D_ _) _
     rw[hW4];clear hW4 z0 z1 z2 zz zf0 zf1 zf2;obtain⟨z0,z1,z2⟩:=bc3 X4.out rfl rfl rfl;refine u_ (by simp[results,bO_,go_sem,z0,z1,z2];try rfl) rfl ?_;exact⟨fun _=>⟨rfl,HB4.out⟩,fun p L' h=>by rw[HV.out]at h;cases h⟩
   ·skip;go_cut[8,9](fun s8 s9 wx=>∃pb:Nat,s8=.pointer (some ⟨pb,0,none⟩)∧s9=.bool true∧W0.heap.size≤pb∧wx.heap[pb]?=some (.cells #[.string ⟨t'.toArray⟩,.int .i64 y1,.int .i64 y2] 82 (0,0))∧Below W0.heap.size W0 wx);case first=>
     go_region_held3(fun w'=>w'.cell? ⟨bb,0,none⟩=some (.slice (some ⟨g,off,none⟩) (r.length+1) c)∧w'.cell? ⟨g,off,none⟩=some (.string ⟨t.toArray⟩)∧w'.cell? ⟨g,off+1,none⟩=some (.int .i64 x1)∧w'.cell? ⟨g,off+2,none⟩=some (.int .i64 x2)∧w'.cell? ⟨w.heap.size,0,none⟩=some (.slice HA H.length hc))(((try dsimp only);refine⟨x16 (W:=W0) ?_ HD.out.1,x16 (W:=W0) ?_ HD.out.2.1,x16 (W:=W0) ?_ HD.out.2.2.1,x16 (W:=W0) ?_ HD.out.2.2.2.1,x16 (W:=W0) ?_ HD.out.2.2.2.2⟩<;>(repeat(first|exact c_ _ _|exact hbw|refine q15 ?_ _|refine x15 ?_|refine q11 ?_ _|refine w14 ?_ (by first|exact v_ _|omega|(dsimp only;omega)|(simp;omega)) _))))(first
      |(go_at_call 143;refine(HRD _ (HS.out.below (by repeat(first|exact HB0.out|refine x15 ?_|refine q11 ?_ _)))).out.mono ?_;rintro e w1⟨rfl,hb1⟩;have hbw:Below W0.heap.size W0 w1:=q12 hb1 (by repeat(first|exact c_ _ _|refine x15 ?_|refine q11 ?_ _));have ZB:Hid (w1.heap[W0.heap.size]?=some (.cells z115 82 (0,0))):=j3 hb1 (j17 (w:=W0.drew) rfl);have z0:w1.cell? ⟨W0.heap.size,0,none⟩=some (.string ⟨#[]⟩):=j14 ZB.out rfl;have z1:w1.cell? ⟨W0.heap.size,1,none⟩=some (.int .i64 0):=j14 ZB.out rfl;have z2:w1.cell? ⟨W0.heap.size,2,none⟩=some (.int .i64 0):=j14 ZB.out rfl;have zf0:=q13 (i:=0) ZB.out;have zf1:=q13 (i:=1) ZB.out;have zf2:=q13 (i:=2) ZB.out;have zz:=q14 ZB.out;clear hb1)
      |(go_at_call 143;refine(HRD _ (HS.out.below (by repeat(first|exact HB0.out|refine x15 ?_|refine q11 ?_ _)))).out.mono ?_;rintro e w1⟨rfl,hb1⟩;have hbw:Below W0.heap.size W0 w1:=q12 hb1 (by repeat(first|exact c_ _ _|refine x15 ?_|refine q11 ?_ _));clear hb1));all_goals go_wp2_with fail
     all_goals go_meet
     all_goals first|exact⟨_,rfl,rfl,hbw.size,j17 rfl,q11 hbw _⟩|exact⟨_,rfl,rfl,v_ _,j15 (j15 (j15 ZB.out)),w14 (w14 (w14 hbw (v_ _) _) (v_ _) _) (v_ _) _⟩
    case rest=>
     obtain⟨pb,rfl,rfl,hpb,hpk,hbx⟩:=hcut;have HPB:=a_ hpk;have KPB:=a_ hpb;have HB2:=a_ hbx;clear hpb hpk hbx;have LB:Hid (wc.heap[bb]?=some (.cells #[.slice (some ⟨g,off,none⟩) (r.length+1) c,.int .i64 sent] 183 (0,0))):=j3 HB2.out KB.out;have LG:=a_ (j3 HB2.out KG.out);have LR:=a_ (KR.out.below HB2.out);have L1:Hid (wc.heap[w.heap.size+1]?=some (.cells #[.string ⟨#[]⟩,.int .i64 0,.int .i64 0] 82 (0,0))):=j3 HB2.out X1.out;have HL:=a_ (q12 HB2.out HB0.out);have HPG:Hid (g<pb):=by have h1:=q14 KG.out;have h2:=KPB.out;simp only[Hid];omega
     have HPB1:Hid (bb<pb):=by have h1:=q14 KB.out;have h2:=KPB.out;simp only[Hid];omega
     have HP1:Hid (w.heap.size+1<pb):=by have h1:=q14 X1.out;have h2:=KPB.out;simp only[Hid];omega
     have HGW:Hid (g<w.heap.size):=q14 HG.out;have HBW:Hid (bb<w.heap.size):=q14 HBB.out;clear HRD HS HD KB KG KR X0 X1 HB0 HB2 HSR HG HBB KPB;have c0:wc.cell? ⟨bb,0,none⟩=some (.slice (some ⟨g,off,none⟩) (r.length+1) c):=j14 LB.out rfl;obtain⟨p0,p1,p2⟩:=bc3 HPB.out rfl rfl rfl;have pz:=q14 HPB.out;by_cases ht:t=[];rotate_left;·
      have hrd:=HRE.out.symm.trans (q137 (H:=H) (p:=(t,(x1,x2))) ht);injection hrd with hrd;injection hrd with e1 e2;injection e2 with e2 e3;subst e1 e2 e3;have htx:=HPO.out.resolve_right (fun h=>ht h.1);have hx1:y1=0:=R_ Prod.fst htx.2;have hx2:y2=0:=R_ Prod.snd htx.2;subst hx1 hx2;have hte:t'.isEmpty=false:=au_.2 ht;obtain⟨N,hN⟩:∃N:Nat,min t'.length cs.toNat=N:=⟨_,rfl⟩;have hcs:=HC.out;have htl:0<t'.length:=bb_.2 ht;have hmin:min (t'.length:Int) cs=(N:Int):=by omega
      have hN0:(0:Int)≤(N:Int):=by omega
      have hN1:(N:Int)≤(t'.length:Int):=by omega
      obtain⟨u,hu⟩:∃u,t'.take N=u:=⟨_,rfl⟩;obtain⟨v,hv⟩:∃v,t'.drop N=v:=⟨_,rfl⟩;have HV:Hid (w43 H cs ((t',(0,0))::r)=some ((u,(0,0)),if v=[]then r else(v,(0,0))::r)):=by
       simp only[Hid];refine(j94 (H:=H) (cs:=cs) (p:=(t',(0,0))) (r:=r) ht).trans ?_;simp only;have hc1:t'.take cs.toNat=u:=by rw[←hu,List.take_eq_take_iff];omega
       rw[hc1];by_cases hle:t'.length≤cs.toNat;·rw[B_ hle,B_ (by rw[←hv];exact bi_.2 (by omega))]
       ·have hne:cs.toNat=N:=by omega
        rw[w_ hle,w_ (by rw[←hv];intro e;have:=bi_.1 e;omega),hne,hv]
      have ex1:(⟨t'.toArray⟩:ByteArray).extract 0 N=⟨u.toArray⟩:=by rw[y62,←hu];simp
      have ex2:(⟨t'.toArray⟩:ByteArray).extract N t'.length=⟨v.toArray⟩:=by rw[y62,←hv,t_ (by simp)]
      have HCL:Hid (r.length+1≤c):=by have:=LR.out.le;simp only[g_]at this;exact this
      clear ht htx hu hv hN htl;go_upto_region 9 with fail;have d0:wc.cell? ⟨g,off,none⟩=some (.string ⟨t'.toArray⟩):=by have:=LR.out.cell (k:=0) (j:=0) (v:=.string ⟨t'.toArray⟩) (by simp) rfl;simpa using this
      have df0:wc.frozen? ⟨g,off,none⟩=false:=q13 LG.out;have pf0:=q13 (i:=0) HPB.out;have dz:=q14 LG.out;have hgp:¬g=pb:=by have:=HPG.out;omega
      have hpg:¬pb=g:=by have:=HPG.out;omega
      go_region;obtain⟨W5,hW5⟩:∃W,((wc.setCell ⟨pb,0,none⟩ (.string ⟨u.toArray⟩)).setCell ⟨g,off,none⟩ (.string ⟨v.toArray⟩)).drew=W:=⟨_,rfl⟩;have PB5:Hid (W5.heap[pb]?=some (.cells #[.string ⟨u.toArray⟩,.int .i64 0,.int .i64 0] 82 (0,0))):=by rw[←hW5];exact q18 (w15 hpg (j15 HPB.out))
      have LG5:Hid (W5.heap[g]?=some (.cells (C.setIfInBounds off (.string ⟨v.toArray⟩)) 82 (0,0))):=by rw[←hW5];exact q18 (j15 (w15 hgp LG.out))
      have LRp:SpG j18 3 (wc.setCell ⟨pb,0,none⟩ (.string ⟨u.toArray⟩)) (some ⟨g,off,none⟩) c ((t',(0,0))::r):=LR.out.mut (S:=[pb]) (fun _ a ha=>by injection ha with ha;rw[←ha];simpa using hgp) (Mut.set (p:=⟨pb,0,none⟩) (by simp) _ (Mut.refl _ _));have LR5:Hid (SpG j18 3 W5 (some ⟨g,off,none⟩) c ((v,(0,0))::r)):=by simp only[Hid];rw[←hW5];exact(w158 (w15 hgp LG.out) LRp).drew
      have hbp:bb≠pb:=by have:=HPB1.out;omega
      have hbg:bb≠g:=fun e=>HGB.out e.symm;have LB5:Hid (W5.heap[bb]?=some (.cells #[.slice (some ⟨g,off,none⟩) (r.length+1) c,.int .i64 sent] 183 (0,0))):=by rw[←hW5];exact q18 (w15 hbg (w15 hbp LB.out))
      have h1p:w.heap.size+1≠pb:=by have:=HP1.out;omega
      have h1g:w.heap.size+1≠g:=by have:=HGW.out;omega
      have L15:Hid (W5.heap[w.heap.size+1]?=some (.cells #[.string ⟨#[]⟩,.int .i64 0,.int .i64 0] 82 (0,0))):=by rw[←hW5];exact q18 (w15 h1g (w15 h1p L1.out))
      have M5:Hid (Mut [g,pb] wc W5):=by rw[←hW5];exact Mut.drew (Mut.set (p:=⟨g,off,none⟩) (by simp) _ (Mut.set (p:=⟨pb,0,none⟩) (by simp) _ (Mut.refl _ _)))
      rw[hW5];clear hW5 LRp c0 p0 p1 p2 pz d0 df0 pf0 dz hgp hpg hbp h1p h1g HPB LG LR LB L1 ex1 ex2 hmin;have c0:W5.cell? ⟨bb,0,none⟩=some (.slice (some ⟨g,off,none⟩) (r.length+1) c):=j14 LB5.out rfl;have c1:W5.cell? ⟨bb,1,none⟩=some (.int .i64 sent):=j14 LB5.out rfl;have cf1:W5.frozen? ⟨bb,1,none⟩=false:=q13 LB5.out;have cz:=q14 LB5.out;go_upto_region 11 with fail;obtain⟨sn,hsn⟩:∃x,wrap64 (sent+(N:Int))=x:=⟨_,rfl⟩;rw[hsn];obtain⟨W6,hW6⟩:∃W,W5.setCell ⟨bb,1,none⟩ (.int .i64 sn)=W:=⟨_,rfl⟩;have hpb:pb≠bb:=by have:=HPB1.out;omega
      have hgb:g≠bb:=HGB.out;have h1b:w.heap.size+1≠bb:=by have:=HBW.out;omega
      have LB6:Hid (W6.heap[bb]?=some (.cells #[.slice (some ⟨g,off,none⟩) (r.length+1) c,.int .i64 sn] 183 (0,0))):=by rw[←hW6];exact j15 LB5.out
      have PB6:Hid (W6.heap[pb]?=some (.cells #[.string ⟨u.toArray⟩,.int .i64 0,.int .i64 0] 82 (0,0))):=by rw[←hW6];exact w15 hpb PB5.out
      have M56:Mut [bb] W5 W6:=by rw[←hW6];exact Mut.set (p:=⟨bb,1,none⟩) (by simp) _ (Mut.refl _ _)
      have LG6:=a_ (M56.blk _ _ LG5.out (by simpa using hgb));have LR6:=a_ (LR5.out.mut (S:=[bb]) (fun _ a ha=>by injection ha with ha;rw[←ha];simpa using hgb) M56);have L16:=a_ (M56.blk _ _ L15.out (by simpa using h1b));have M6:Hid (Mut [g,pb,bb] wc W6):=(M5.out.mono (by simp)).trans (M56.mono (by simp));rw[hW6];clear hW6 M56 hsn c0 c1 cf1 cz LB5 PB5 LG5 LR5 L15 M5;have d0:W6.cell? ⟨g,off,none⟩=some (.string ⟨v.toArray⟩):=by have:=LR6.out.cell (k:=0) (j:=0) (v:=.string ⟨v.toArray⟩) (by simp) rfl;simpa using this
      have dz:=q14 LG6.out;cases hve:v.isEmpty with
       |true=>
        have HEV:Hid (v=[]):=aJ_.1 hve;have c0:W6.cell? ⟨bb,0,none⟩=some (.slice (some ⟨g,off,none⟩) (r.length+1) c):=j14 LB6.out rfl;have cf0:W6.frozen? ⟨bb,0,none⟩=false:=q13 LB6.out;have cz:=q14 LB6.out;have hcl:(r.length:Int)+1≤(c:Int):=by have:=HCL.out;omega
        go_upto_region 13 with fail;obtain⟨A7,hA7⟩:∃A:Option Addr,(if c=1 then some (⟨g,off,none⟩:Addr)else some ⟨g,off+3,none⟩)=A:=⟨_,rfl⟩;rw[hA7];obtain⟨W7,hW7⟩:∃W,W6.setCell ⟨bb,0,none⟩ (.slice A7 r.length (c-1))=W:=⟨_,rfl⟩;have LB7:Hid (W7.heap[bb]?=some (.cells #[.slice A7 r.length (c-1),.int .i64 sn] 183 (0,0))):=by rw[←hW7];exact j15 LB6.out
        have M67:Mut [bb] W6 W7:=by rw[←hW7];exact Mut.set (p:=⟨bb,0,none⟩) (by simp) _ (Mut.refl _ _)
        have PB7:=a_ (M67.blk _ _ PB6.out (by simpa using hpb));have LG7:=a_ (M67.blk _ _ LG6.out (by simpa using hgb));have LR7:=a_ (LR6.out.mut (S:=[bb]) (fun _ a ha=>by injection ha with ha;rw[←ha];simpa using hgb) M67);have L17:=a_ (M67.blk _ _ L16.out (by simpa using h1b));have M7:Hid (Mut [g,pb,bb] wc W7):=M6.out.trans (M67.mono (by simp));have HA7:=a_ hA7;rw[hW7];clear LB6 PB6 LG6 LR6 L16 M6 d0 dz hve hW7 hA7 M67 c0 cf0 cz hcl;obtain⟨z0,z1,z2⟩:=bc3 L17.out rfl rfl rfl;have zf0:=q13 (i:=0) L17.out;have zf1:=q13 (i:=1) L17.out;have zf2:=q13 (i:=2) L17.out;have zz:=q14 L17.out;obtain⟨p0,p1,p2⟩:=bc3 PB7.out rfl rfl rfl;have pz:=q14 PB7.out;go_wp2_with fail;obtain⟨W8,hW8⟩:∃W,((W7.setCell ⟨w.heap.size+1,0,none⟩ (.string ⟨u.toArray⟩)).setCell ⟨w.heap.size+1,1,none⟩ (.int .i64 0)).setCell ⟨w.heap.size+1,2,none⟩ (.int .i64 0)=W:=⟨_,rfl⟩;have X8:Hid (W8.heap[w.heap.size+1]?=some (.cells #[.string ⟨u.toArray⟩,.int .i64 0,.int .i64 0] 82 (0,0))):=by rw[←hW8];exact j15 (j15 (j15 L17.out))
        have M8:Hid (Mut [w.heap.size+1] W7 W8):=by rw[←hW8];exact Mut.set (p:=⟨w.heap.size+1,2,none⟩) (by simp) _ (Mut.set (p:=⟨w.heap.size+1,1,none⟩) (by simp) _ (Mut.set (p:=⟨w.heap.size+1,0,none⟩) (by simp) _ (Mut.refl _ _)))
        rw[hW8];clear hW8 z0 z1 z2 zf0 zf1 zf2 zz p0 p1 p2 pz;obtain⟨z0,z1,z2⟩:=bc3 X8.out rfl rfl rfl;refine u_ (by simp[results,bO_,go_sem,z0,z1,z2];try rfl) rfl ?_;have hg1:g≠w.heap.size+1:=by have:=HGW.out;omega
        have hb1:bb≠w.heap.size+1:=by have:=HBW.out;omega
        have hp1:=HP1.out;have hm8:Mut [g,pb,bb,w.heap.size+1] wc W8:=(M7.out.mono (by simp)).trans (M8.out.mono (by simp));have hm:Mut S w W8:=(Mut.of_below HL.out).trans_new hm8 (fun k hk=>by
         simp only[E_,O_,aL_]at hk;rcases hk with rfl|rfl|rfl|rfl;·exact .inl HGS.out
         ·exact .inr (by omega)
         ·exact .inl HI.out
         ·exact .inr (by omega));have hbk:=M8.out.blk _ _ LB7.out (by simpa using hb1);have hgk:=M8.out.blk _ _ LG7.out (by simpa using hg1);have hrk:=LR7.out.mut (S:=[w.heap.size+1]) (fun _ a ha=>by injection ha with ha;rw[←ha];simpa using hg1) M8.out;refine⟨fun h=>(by rw[HV.out]at h;cases h),fun p L' h=>?_⟩;rw[HV.out]at h;injection h with h;injection h with h1 h2;subst h1 h2;refine⟨rfl,⟨HI.out,?_⟩,hm⟩;rw[B_ HEV.out];refine⟨A7,c-1,_,rfl,_,hbk,?_⟩;by_cases hc1:c=1;·have hr:r=[]:=n_ (by have:=HCL.out;omega);have hA:=HA7.out;rw[B_ hc1]at hA;rw[hr,←hA];exact⟨SpG.of_nil _ _,fun h=>absurd h (by simp)⟩
        ·have hA:=HA7.out;rw[w_ hc1]at hA;rw[←hA];exact⟨q88 hrk,fun _=>⟨g,off+3,_,rfl,hgk,HGS.out⟩⟩
       |false=>
        have HEV:Hid (¬v=[]):=au_.1 hve;go_upto_region 13 with fail;obtain⟨W7,hW7⟩:∃W,W6=W:=⟨_,rfl⟩;rw[hW7]at LB6 PB6 LG6 LR6 L16 M6⊢;have LB7:=LB6;have PB7:=PB6;have LG7:=LG6;have LR7:=LR6;have L17:=L16;have M7:=M6;clear LB6 PB6 LG6 LR6 L16 M6 d0 dz hve hW7;obtain⟨z0,z1,z2⟩:=bc3 L17.out rfl rfl rfl;have zf0:=q13 (i:=0) L17.out;have zf1:=q13 (i:=1) L17.out;have zf2:=q13 (i:=2) L17.out;have zz:=q14 L17.out;obtain⟨p0,p1,p2⟩:=bc3 PB7.out rfl rfl rfl;have pz:=q14 PB7.out;go_wp2_with fail;obtain⟨W8,hW8⟩:∃W,((W7.setCell ⟨w.heap.size+1,0,none⟩ (.string ⟨u.toArray⟩)).setCell ⟨w.heap.size+1,1,none⟩ (.int .i64 0)).setCell ⟨w.heap.size+1,2,none⟩ (.int .i64 0)=W:=⟨_,rfl⟩;have X8:Hid (W8.heap[w.heap.size+1]?=some (.cells #[.string ⟨u.toArray⟩,.int .i64 0,.int .i64 0] 82 (0,0))):=by rw[←hW8];exact j15 (j15 (j15 L17.out))
        have M8:Hid (Mut [w.heap.size+1] W7 W8):=by rw[←hW8];exact Mut.set (p:=⟨w.heap.size+1,2,none⟩) (by simp) _ (Mut.set (p:=⟨w.heap.size+1,1,none⟩) (by simp) _ (Mut.set (p:=⟨w.heap.size+1,0,none⟩) (by simp) _ (Mut.refl _ _)))
        rw[hW8];clear hW8 z0 z1 z2 zf0 zf1 zf2 zz p0 p1 p2 pz;obtain⟨z0,z1,z2⟩:=bc3 X8.out rfl rfl rfl;refine u_ (by simp[results,bO_,go_sem,z0,z1,z2];try rfl) rfl ?_;have hg1:g≠w.heap.size+1:=by have:=HGW.out;omega
        have hb1:bb≠w.heap.size+1:=by have:=HBW.out;omega
        have hp1:=HP1.out;have hm8:Mut [g,pb,bb,w.heap.size+1] wc W8:=(M7.out.mono (by simp)).trans (M8.out.mono (by simp));have hm:Mut S w W8:=(Mut.of_below HL.out).trans_new hm8 (fun k hk=>by
         simp only[E_,O_,aL_]at hk;rcases hk with rfl|rfl|rfl|rfl;·exact .inl HGS.out
         ·exact .inr (by omega)
         ·exact .inl HI.out
         ·exact .inr (by omega));have hbk:=M8.out.blk _ _ LB7.out (by simpa using hb1);have hgk:=M8.out.blk _ _ LG7.out (by simpa using hg1);have hrk:=LR7.out.mut (S:=[w.heap.size+1]) (fun _ a ha=>by injection ha with ha;rw[←ha];simpa using hg1) M8.out;refine⟨fun h=>(by rw[HV.out]at h;cases h),fun p L' h=>?_⟩;rw[HV.out]at h;injection h with h;injection h with h1 h2;subst h1 h2;refine⟨rfl,⟨HI.out,?_⟩,hm⟩;rw[w_ HEV.out];exact⟨some ⟨g,off,none⟩,c,_,rfl,_,hbk,⟨hrk,fun _=>⟨g,off,_,rfl,hgk,HGS.out⟩⟩⟩
     ·subst ht;obtain⟨en,hen,he1,he2,hto,hx0,hx3⟩:=v137 HCN.out HC.out.1 (rfl:(([],(x1,x2)):w17).1=[]) HPO.out HRE.out;injection hen with e1 e2;injection e2 with e2 e3;subst e1 e2 e3;simp only at he1 he2 hto hx0 hx3;have hcs:=HC.out;obtain⟨n,hn⟩:∃n:Int,min (y2-y1) cs=n:=⟨_,rfl⟩;obtain⟨q,hq⟩:∃q:Int,y1+n=q:=⟨_,rfl⟩;have hw1:wrap64 (y2-y1)=y2-y1:=by unfold wrap64;omega
      have hw2:wrap64 (y1+n)=q:=by unfold wrap64;omega
      have HV:Hid (w43 H cs (([],(y1,x2))::r)=some (([],(y1,q)),if q=x2 then r else([],(q,x2))::r)):=x57 (p:=([],(y1,x2))) rfl (by rw[hto];omega) (by simp only;omega);have HCL:Hid (r.length+1≤c):=by have:=LR.out.le;simp only[g_]at this;exact this
      clear he1 he2 hto hx0 hx3 hq;go_upto_region 15 with fail;have pf2:=q13 (i:=2) HPB.out;have d1:wc.cell? ⟨g,off+1,none⟩=some (.int .i64 y1):=by have:=LR.out.cell (k:=0) (j:=1) (v:=.int .i64 y1) (by simp) rfl;simpa using this
      have df1:wc.frozen? ⟨g,off+1,none⟩=false:=q13 LG.out;have dz:=q14 LG.out;have hgp:¬g=pb:=by have:=HPG.out;omega
      have hpg:¬pb=g:=by have:=HPG.out;omega
      have hbp:bb≠pb:=by have:=HPB1.out;omega
      have hbg:bb≠g:=fun e=>HGB.out e.symm;have c1:wc.cell? ⟨bb,1,none⟩=some (.int .i64 sent):=j14 LB.out rfl;have cf1:wc.frozen? ⟨bb,1,none⟩=false:=q13 LB.out;have cz:=q14 LB.out;go_upto_region 18 with fail;obtain⟨sn,hsn⟩:∃x,wrap64 (sent+n)=x:=⟨_,rfl⟩;rw[hsn];obtain⟨W6,hW6⟩:∃W,((wc.setCell ⟨pb,2,none⟩ (.int .i64 q)).setCell ⟨g,off+1,none⟩ (.int .i64 q)).setCell ⟨bb,1,none⟩ (.int .i64 sn)=W:=⟨_,rfl⟩;have hpb:pb≠bb:=bn_ hbp;have hgb:g≠bb:=HGB.out;have h1b:w.heap.size+1≠bb:=by have:=HBW.out;omega
      have h1p:w.heap.size+1≠pb:=by have:=HP1.out;omega
      have h1g:w.heap.size+1≠g:=by have:=HGW.out;omega
      have PB6:Hid (W6.heap[pb]?=some (.cells #[.string ⟨#[]⟩,.int .i64 y1,.int .i64 q] 82 (0,0))):=by rw[←hW6];exact w15 hpb (w15 hpg (j15 HPB.out))
      have LG6:Hid (W6.heap[g]?=some (.cells (C.setIfInBounds (off+1) (.int .i64 q)) 82 (0,0))):=by rw[←hW6];exact w15 hgb (j15 (w15 hgp LG.out))
      have LRp:SpG j18 3 (wc.setCell ⟨pb,2,none⟩ (.int .i64 q)) (some ⟨g,off,none⟩) c (([],(y1,x2))::r):=LR.out.mut (S:=[pb]) (fun _ a ha=>by injection ha with ha;rw[←ha];simpa using hgp) (Mut.set (p:=⟨pb,2,none⟩) (by simp) _ (Mut.refl _ _));have LRq:=q159 (y:=q) (w15 (v:=.int .i64 q) (p:=⟨pb,2,none⟩) hgp LG.out) LRp;have LR6:Hid (SpG j18 3 W6 (some ⟨g,off,none⟩) c (([],(q,x2))::r)):=by rw[←hW6];exact LRq.mut (S:=[bb]) (fun _ a ha=>by injection ha with ha;rw[←ha];simpa using hgb) (Mut.set (p:=⟨bb,1,none⟩) (by simp) _ (Mut.refl _ _))
      have LB6:Hid (W6.heap[bb]?=some (.cells #[.slice (some ⟨g,off,none⟩) (r.length+1) c,.int .i64 sn] 183 (0,0))):=by rw[←hW6];exact j15 (w15 hbg (w15 hbp LB.out))
      have L16:Hid (W6.heap[w.heap.size+1]?=some (.cells #[.string ⟨#[]⟩,.int .i64 0,.int .i64 0] 82 (0,0))):=by rw[←hW6];exact w15 h1b (w15 h1g (w15 h1p L1.out))
      have M6:Hid (Mut [g,pb,bb] wc W6):=by rw[←hW6];exact Mut.set (p:=⟨bb,1,none⟩) (by simp) _ (Mut.set (p:=⟨g,off+1,none⟩) (by simp) _ (Mut.set (p:=⟨pb,2,none⟩) (by simp) _ (Mut.refl _ _)))
      rw[hW6];clear hW6 LRp LRq hsn c0 c1 cf1 cz LB HPB LG LR L1 p0 p1 p2 pz pf2 d1 df1 dz hgp hpg hbp hbg h1p h1g hw1 hw2;have d1:W6.cell? ⟨g,off+1,none⟩=some (.int .i64 q):=by have:=LR6.out.cell (k:=0) (j:=1) (v:=.int .i64 q) (by simp) rfl;simpa using this
      have d2:W6.cell? ⟨g,off+2,none⟩=some (.int .i64 x2):=by have:=LR6.out.cell (k:=0) (j:=2) (v:=.int .i64 x2) (by simp) rfl;simpa using this
      have dz:=q14 LG6.out;by_cases hqx:q=x2;·
       have hqe:(q==x2)=true:=by rw[aM_];exact hqx
       have HEV:=a_ hqx;clear hqx;go_quiet(fail);obtain⟨Wd,hWd⟩:∃W,W6.drewN nq=W:=⟨_,rfl⟩;have LBd:=a_ (j32 (n:=nq) LB6.out);have PBd:=a_ (j32 (n:=nq) PB6.out);have LGd:=a_ (j32 (n:=nq) LG6.out);have LRd:=a_ (LR6.out.below (q15 (c_ _ _) nq));have L1d:=a_ (j32 (n:=nq) L16.out);have Md:=a_ (M6.out.drewN nq);rw[hWd]at LBd PBd LGd LRd L1d Md⊢;clear hWd LB6 PB6 LG6 LR6 L16 M6 d1 d2 dz;have c0:Wd.cell? ⟨bb,0,none⟩=some (.slice (some ⟨g,off,none⟩) (r.length+1) c):=j14 LBd.out rfl;have cf0:Wd.frozen? ⟨bb,0,none⟩=false:=q13 LBd.out;have cz:=q14 LBd.out;have hcl:(r.length:Int)+1≤(c:Int):=by have:=HCL.out;omega
       go_upto_region 20 with fail;obtain⟨A7,hA7⟩:∃A:Option Addr,(if c=1 then some (⟨g,off,none⟩:Addr)else some ⟨g,off+3,none⟩)=A:=⟨_,rfl⟩;rw[hA7];obtain⟨W7,hW7⟩:∃W,Wd.setCell ⟨bb,0,none⟩ (.slice A7 r.length (c-1))=W:=⟨_,rfl⟩;have LB7:Hid (W7.heap[bb]?=some (.cells #[.slice A7 r.length (c-1),.int .i64 sn] 183 (0,0))):=by rw[←hW7];exact j15 LBd.out
       have M67:Mut [bb] Wd W7:=by rw[←hW7];exact Mut.set (p:=⟨bb,0,none⟩) (by simp) _ (Mut.refl _ _)
       have PB7:=a_ (M67.blk _ _ PBd.out (by simpa using hpb));have LG7:=a_ (M67.blk _ _ LGd.out (by simpa using hgb));have LR7:=a_ (LRd.out.mut (S:=[bb]) (fun _ a ha=>by injection ha with ha;rw[←ha];simpa using hgb) M67);have L17:=a_ (M67.blk _ _ L1d.out (by simpa using h1b));have M7:Hid (Mut [g,pb,bb] wc W7):=Md.out.trans (M67.mono (by simp));have HA7:=a_ hA7;rw[hW7];clear LBd PBd LGd LRd L1d Md hqe hW7 hA7 M67 c0 cf0 cz hcl;obtain⟨z0,z1,z2⟩:=bc3 L17.out rfl rfl rfl;have zf0:=q13 (i:=0) L17.out;have zf1:=q13 (i:=1) L17.out;have zf2:=q13 (i:=2) L17.out;have zz:=q14 L17.out;obtain⟨p0,p1,p2⟩:=bc3 PB7.out rfl rfl rfl;have pz:=q14 PB7.out;go_wp2_with fail;obtain⟨W8,hW8⟩:∃W,((W7.setCell ⟨w.heap.size+1,0,none⟩ (.string ⟨#[]⟩)).setCell ⟨w.heap.size+1,1,none⟩ (.int .i64 y1)).setCell ⟨w.heap.size+1,2,none⟩ (.int .i64 q)=W:=⟨_,rfl⟩;have X8:Hid (W8.heap[w.heap.size+1]?=some (.cells #[.string ⟨#[]⟩,.int .i64 y1,.int .i64 q] 82 (0,0))):=by rw[←hW8];exact j15 (j15 (j15 L17.out))
       have M8:Hid (Mut [w.heap.size+1] W7 W8):=by rw[←hW8];exact Mut.set (p:=⟨w.heap.size+1,2,none⟩) (by simp) _ (Mut.set (p:=⟨w.heap.size+1,1,none⟩) (by simp) _ (Mut.set (p:=⟨w.heap.size+1,0,none⟩) (by simp) _ (Mut.refl _ _)))
       rw[hW8];clear hW8 z0 z1 z2 zf0 zf1 zf2 zz p0 p1 p2 pz;obtain⟨z0,z1,z2⟩:=bc3 X8.out rfl rfl rfl;refine u_ (by simp[results,bO_,go_sem,z0,z1,z2];try rfl) rfl ?_;have hg1:g≠w.heap.size+1:=by have:=HGW.out;omega
       have hb1:bb≠w.heap.size+1:=by have:=HBW.out;omega
       have hp1:=HP1.out;have hm8:Mut [g,pb,bb,w.heap.size+1] wc W8:=(M7.out.mono (by simp)).trans (M8.out.mono (by simp));have hm:Mut S w W8:=(Mut.of_below HL.out).trans_new hm8 (fun k hk=>by
        simp only[E_,O_,aL_]at hk;rcases hk with rfl|rfl|rfl|rfl;·exact .inl HGS.out
        ·exact .inr (by omega)
        ·exact .inl HI.out
        ·exact .inr (by omega));have hbk:=M8.out.blk _ _ LB7.out (by simpa using hb1);have hgk:=M8.out.blk _ _ LG7.out (by simpa using hg1);have hrk:=LR7.out.mut (S:=[w.heap.size+1]) (fun _ a ha=>by injection ha with ha;rw[←ha];simpa using hg1) M8.out;refine⟨fun h=>(by rw[HV.out]at h;cases h),fun p L' h=>?_⟩;rw[HV.out]at h;injection h with h;injection h with h1 h2;subst h1 h2;refine⟨rfl,⟨HI.out,?_⟩,hm⟩;rw[B_ HEV.out];refine⟨A7,c-1,_,rfl,_,hbk,?_⟩;by_cases hc1:c=1;·have hr:r=[]:=n_ (by have:=HCL.out;omega);have hA:=HA7.out;rw[B_ hc1]at hA;rw[hr,←hA];exact⟨SpG.of_nil _ _,fun h=>absurd h (by simp)⟩
       ·have hA:=HA7.out;rw[w_ hc1]at hA;rw[←hA];exact⟨q88 hrk,fun _=>⟨g,off+3,_,rfl,hgk,HGS.out⟩⟩
      ·have hqe:(q==x2)=false:=by rw[l_];exact hqx
       have HEV:=a_ hqx;clear hqx;go_quiet(fail);obtain⟨Wd,hWd⟩:∃W,W6.drewN nq=W:=⟨_,rfl⟩;have LBd:=a_ (j32 (n:=nq) LB6.out);have PBd:=a_ (j32 (n:=nq) PB6.out);have LGd:=a_ (j32 (n:=nq) LG6.out);have LRd:=a_ (LR6.out.below (q15 (c_ _ _) nq));have L1d:=a_ (j32 (n:=nq) L16.out);have Md:=a_ (M6.out.drewN nq);rw[hWd]at LBd PBd LGd LRd L1d Md⊢;clear hWd LB6 PB6 LG6 LR6 L16 M6 d1 d2 dz;go_upto_region 20 with fail;obtain⟨W7,hW7⟩:∃W,Wd=W:=⟨_,rfl⟩;rw[hW7]at LBd PBd LGd LRd L1d Md⊢;have LB7:=LBd;have PB7:=PBd;have LG7:=LGd;have LR7:=LRd;have L17:=L1d;have M7:=Md;clear LBd PBd LGd LRd L1d Md hqe hW7;obtain⟨z0,z1,z2⟩:=bc3 L17.out rfl rfl rfl;have zf0:=q13 (i:=0) L17.out;have zf1:=q13 (i:=1) L17.out;have zf2:=q13 (i:=2) L17.out;have zz:=q14 L17.out;obtain⟨p0,p1,p2⟩:=bc3 PB7.out rfl rfl rfl;have pz:=q14 PB7.out;go_wp2_with fail;obtain⟨W8,hW8⟩:∃W,((W7.setCell ⟨w.heap.size+1,0,none⟩ (.string ⟨#[]⟩)).setCell ⟨w.heap.size+1,1,none⟩ (.int .i64 y1)).setCell ⟨w.heap.size+1,2,none⟩ (.int .i64 q)=W:=⟨_,rfl⟩;have X8:Hid (W8.heap[w.heap.size+1]?=some (.cells #[.string ⟨#[]⟩,.int .i64 y1,.int .i64 q] 82 (0,0))):=by rw[←hW8];exact j15 (j15 (j15 L17.out))
       have M8:Hid (Mut [w.heap.size+1] W7 W8):=by rw[←hW8];exact Mut.set (p:=⟨w.heap.size+1,2,none⟩) (by simp) _ (Mut.set (p:=⟨w.heap.size+1,1,none⟩) (by simp) _ (Mut.set (p:=⟨w.heap.size+1,0,none⟩) (by simp) _ (Mut.refl _ _)))
       rw[hW8];clear hW8 z0 z1 z2 zf0 zf1 zf2 zz p0 p1 p2 pz;obtain⟨z0,z1,z2⟩:=bc3 X8.out rfl rfl rfl;refine u_ (by simp[results,bO_,go_sem,z0,z1,z2];try rfl) rfl ?_;have hg1:g≠w.heap.size+1:=by have:=HGW.out;omega
       have hb1:bb≠w.heap.size+1:=by have:=HBW.out;omega
       have hp1:=HP1.out;have hm8:Mut [g,pb,bb,w.heap.size+1] wc W8:=(M7.out.mono (by simp)).trans (M8.out.mono (by simp));have hm:Mut S w W8:=(Mut.of_below HL.out).trans_new hm8 (fun k hk=>by
        simp only[E_,O_,aL_]at hk;rcases hk with rfl|rfl|rfl|rfl;·exact .inl HGS.out
        ·exact .inr (by omega)
        ·exact .inl HI.out
        ·exact .inr (by omega));have hbk:=M8.out.blk _ _ LB7.out (by simpa using hb1);have hgk:=M8.out.blk _ _ LG7.out (by simpa using hg1);have hrk:=LR7.out.mut (S:=[w.heap.size+1]) (fun _ a ha=>by injection ha with ha;rw[←ha];simpa using hg1) M8.out;refine⟨fun h=>(by rw[HV.out]at h;cases h),fun p L' h=>?_⟩;rw[HV.out]at h;injection h with h;injection h with h1 h2;subst h1 h2;refine⟨rfl,⟨HI.out,?_⟩,hm⟩;rw[w_ HEV.out];exact⟨some ⟨g,off,none⟩,c,_,rfl,_,hbk,⟨hrk,fun _=>⟨g,off,_,rfl,hgk,HGS.out⟩⟩⟩
theorem j88{W w':World}{S:List Nat}{b o:Nat}{v:Value}(hm:Mut S W w')(hn:b∉S)(h:W.cell? ⟨b,o,none⟩=some v):w'.cell? ⟨b,o,none⟩=some v:=by have hlt:=aH_ W ⟨b,o,none⟩ h;have hw:W.heap[b]?=some W.heap[b]:=aj_ hlt;rw[bG_ (w:=W) (w':=w') (a:=⟨b,o,none⟩) (by simp only;rw[hm.blk b _ hw hn,hw])];exact h
theorem BodyAt.alloc{S:List Nat}{w:World}{bb:Nat}{L:List w17}(h:BodyAt S w bb L)(o:Obj):BodyAt S (w.alloc o) bb L:=h.below (q11 (c_ _ _) _)
theorem BodyAt.mut{S T:List Nat}{w w':World}{bb:Nat}{L:List w17}(h:BodyAt T w bb L)(hT:∀k∈S,k∉T)(hm:Mut S w w'):BodyAt T w' bb L:=by
 obtain⟨A,c,n,hn,sent,h1,h2⟩:=h.blk;refine⟨h.in_,A,c,n,hn,sent,hm.blk _ _ h1 (fun hi=>hT _ hi h.in_),h2.sp.mut (fun h0 a ha hi=>?_) hm,fun hl=>?_⟩;·obtain⟨g,off,cs,e1,e2,e3⟩:=h2.own h0;rw[ha]at e1;injection e1 with e1;rw[e1]at hi;exact hT _ hi e3
 ·obtain⟨g,off,cs,e1,e2,e3⟩:=h2.own hl;exact⟨g,off,cs,e1,hm.blk _ _ e2 (fun hi=>hT _ hi e3),e3⟩
theorem BodyAt.mono{S T:List Nat}{w:World}{bb:Nat}{L:List w17}(h:BodyAt T w bb L)(hT:∀k∈T,k∈S):BodyAt S w bb L:=by
 obtain⟨A,c,n,hn,sent,h1,h2⟩:=h.blk;exact⟨hT _ h.in_,A,c,n,hn,sent,h1,h2.sp,fun hl=>by obtain⟨g,off,cs,e1,e2,e3⟩:=h2.own hl;exact⟨g,off,cs,e1,e2,hT _ e3⟩⟩
theorem BodyAt.small{S:List Nat}{w:World}{bb b:Nat}{L:List w17}{cs:Array Value}{f:Nat×Nat}(h:BodyAt S w bb L)(h0:L≠[])(hb:w.heap[b]?=some (.cells cs 132 f)):∃T,BodyAt T w bb L∧(∀k∈T,k∈S)∧b∉T:=by
 obtain⟨A,c,n,hn,sent,h1,h2⟩:=h.blk;obtain⟨g,off,cs',e1,e2,e3⟩:=h2.own (bb_.2 h0);refine⟨[bb,g],⟨by simp,A,c,n,hn,sent,h1,h2.sp,fun _=>⟨g,off,cs',e1,e2,by simp⟩⟩,?_,?_⟩;·
  intro k hk;simp only[E_,O_,aL_]at hk;rcases hk with rfl|rfl;·exact h.in_
  ·exact e3
 ·have h3:=k36 h1 hb (by decide);have h4:=k36 e2 hb (by decide);simp[bn_ h3,bn_ h4]
theorem q115(HA:Option Addr)(hc:Nat)(H:List (Int×Int))(cs:Int)(w:World):Calls Tryz.prog 75 #[.pointer none,.agg #[.slice HA H.length hc],.int .i64 cs] w fun e w'=>e=.returned (.tuple #[.agg #[.string ⟨#[]⟩,.int .i64 0,.int .i64 0],.bool false])∧Below w.heap.size w w':=by go_enter Tryz.func75,Tryz.ntmps75;go_wp2_with fail;refine u_ (by simp[results,bO_,go_sem];try rfl) rfl ?_;exact⟨rfl,q11 (q11 (c_ _ _) _) _⟩
theorem v94(r:ReqC)(A:Option Addr)(c:Nat)(A1:Option Addr)(c1:Nat)(A2:Option Addr)(c2:Nat)(g:CfgL)(s:SesL)(en:Int)(bd:Value)(b:Nat)(HA:Option Addr)(hc:Nat)(H:List (Int×Int))(w:World)(hb:w.heap[b]?=some (.cells (sesC r A c A1 c1 A2 c2 g s en bd) 132 (0,0)))(hC:∀W,Below w.heap.size w W→Calls Tryz.prog 75 #[bd,.agg #[.slice HA H.length hc],.int .i64 g.j9] W fun e w'=>e=.returned (.tuple #[.agg #[.string ⟨#[]⟩,.int .i64 0,.int .i64 0],.bool false])∧Below W.heap.size W w'):Calls Tryz.prog 31 #[.pointer (some ⟨b,0,none⟩),.agg #[.slice HA H.length hc]] w fun e w'=>e=.returned (.tuple #[ptV ([],(0,0)),.bool false])∧Below w.heap.size w w':=by
 have HC:=a_ hC;have HB:=a_ hb;clear hC hb;go_enter Tryz.func31,Tryz.ntmps31;go_upto_region 1 with fail;obtain⟨W0,hW0,X0,X1,HB0⟩:=box2 w #[.slice HA H.length hc] 26 #[.string ⟨#[]⟩,.int .i64 0,.int .i64 0] 82;rw[hW0];clear hW0;have KB:Hid (W0.heap[b]?=some (.cells (sesC r A c A1 c1 A2 c2 g s en bd) 132 (0,0))):=j3 HB0.out HB.out;have HD:Hid (W0.cell? ⟨b,26,none⟩=some bd∧W0.cell? ⟨b,23,none⟩=some (.int .i64 g.j9)∧W0.cell? ⟨w.heap.size,0,none⟩=some (.slice HA H.length hc)):=⟨j14 KB.out rfl,j14 KB.out rfl,j14 X0.out rfl⟩;have kz:=q14 KB.out;have x0z:=q14 X0.out;go_cut[6,7](fun s6 s7 wx=>∃pb:Nat,s6=.pointer (some ⟨pb,0,none⟩)∧s7=.bool false∧W0.heap.size≤pb∧wx.heap[pb]?=some (.cells #[.string ⟨#[]⟩,.int .i64 0,.int .i64 0] 82 (0,0))∧Below W0.heap.size W0 wx);case first=>
  go_region_held3(fun w'=>w'.cell? ⟨b,26,none⟩=some bd∧w'.cell? ⟨b,23,none⟩=some (.int .i64 g.j9)∧w'.cell? ⟨w.heap.size,0,none⟩=some (.slice HA H.length hc))(((try dsimp only);refine⟨x16 (W:=W0) ?_ HD.out.1,x16 (W:=W0) ?_ HD.out.2.1,x16 (W:=W0) ?_ HD.out.2.2⟩<;>(repeat(first|exact c_ _ _|exact hbw|refine q15 ?_ _|refine x15 ?_|refine q11 ?_ _|refine w14 ?_ (by first|exact v_ _|omega|(dsimp only;omega)|(simp;omega)) _))))(first
   |(go_at_call 75;refine(HC.out _ (by repeat(first|exact HB0.out|refine x15 ?_|refine q11 ?_ _))).mono ?_;rintro e w1⟨rfl,hb1⟩;have hbw:Below W0.heap.size W0 w1:=q12 hb1 (by repeat(first|exact c_ _ _|refine x15 ?_|refine q11 ?_ _));have ZB:Hid (w1.heap[W0.heap.size]?=some (.cells #[.string ⟨#[]⟩,.int .i64 0,.int .i64 0] 82 (0,0))):=j3 hb1 (j17 (w:=W0.drew) rfl);have z0:w1.cell? ⟨W0.heap.size,0,none⟩=some (.string ⟨#[]⟩):=j14 ZB.out rfl;have z1:w1.cell? ⟨W0.heap.size,1,none⟩=some (.int .i64 0):=j14 ZB.out rfl;have z2:w1.cell? ⟨W0.heap.size,2,none⟩=some (.int .i64 0):=j14 ZB.out rfl;have zf0:=q13 (i:=0) ZB.out;have zf1:=q13 (i:=1) ZB.out;have zf2:=q13 (i:=2) ZB.out;have zz:=q14 ZB.out;clear hb1)
   |(go_at_call 75;refine(HC.out _ (by repeat(first|exact HB0.out|refine x15 ?_|refine q11 ?_ _))).mono ?_;rintro e w1⟨rfl,hb1⟩;have hbw:Below W0.heap.size W0 w1:=q12 hb1 (by repeat(first|exact c_ _ _|refine x15 ?_|refine q11 ?_ _));clear hb1));all_goals go_wp2_with fail
  all_goals go_meet
  all_goals first|exact⟨_,rfl,rfl,hbw.size,j17 rfl,q11 hbw _⟩|exact⟨_,rfl,rfl,v_ _,j15 (j15 (j15 ZB.out)),w14 (w14 (w14 hbw (v_ _) _) (v_ _) _) (v_ _) _⟩
 case rest=>
  obtain⟨pb,rfl,rfl,hpb,hpk,hbx⟩:=hcut;have HPB:=a_ hpk;have Z1:=a_ (j3 hbx X1.out);have HBX:=a_ (q12 hbx HB0.out);obtain⟨p0,p1,p2⟩:=bc3 HPB.out rfl rfl rfl;have pz:=q14 HPB.out;obtain⟨z0,z1,z2⟩:=bc3 Z1.out rfl rfl rfl;have zf0:=q13 (i:=0) Z1.out;have zf1:=q13 (i:=1) Z1.out;have zf2:=q13 (i:=2) Z1.out;have zz:=q14 Z1.out;clear hpk hbx hpb;go_wp2_with fail;obtain⟨W4,hW4⟩:∃W,((wc.setCell ⟨w.heap.size+1,0,none⟩ (.string ⟨#[]⟩)).setCell ⟨w.heap.size+1,1,none⟩ (.int .i64 0)).setCell ⟨w.heap.size+1,2,none⟩ (.int .i64 0)=W:=⟨_,rfl⟩;have X4:Hid (W4.heap[w.heap.size+1]?=some (.cells #[.string ⟨#[]⟩,.int .i64 0,.int .i64 0] 82 (0,0))):=by rw[←hW4];exact j15 (j15 (j15 Z1.out))
  have HB4:Hid (Below w.heap.size w W4):=by rw[←hW4];exact w14 (w14 (w14 HBX.out (D_ _) _) (D_ _) _) (D_ _) _
  rw[hW4];clear hW4 z0 z1 z2 zz zf0 zf1 zf2 p0 p1 p2 pz;obtain⟨z0,z1,z2⟩:=bc3 X4.out rfl rfl rfl;refine u_ (by simp[results,Tryz.results31,go_sem,z0,z1,z2];try rfl) rfl ?_;exact⟨rfl,HB4.out⟩
theorem k122(r:ReqC)(A:Option Addr)(c:Nat)(A1:Option Addr)(c1:Nat)(A2:Option Addr)(c2:Nat)(g:CfgL)(s:SesL)(en:Int)(bd:Value)(b:Nat)(HA:Option Addr)(hc:Nat)(H:List (Int×Int))(w:World)(hb:w.heap[b]?=some (.cells (sesC r A c A1 c1 A2 c2 g s en bd) 132 (0,0)))(bb:Nat)(hbd:bd=.pointer (some ⟨bb,0,none⟩))(T:List Nat)(hnb:b∉T)(hT:∀k∈T,k<w.heap.size)(hst:s.st=2)(S:List Nat)(hI:b∈S)(hL:∀k∈S,k<w.heap.size)(hTS:∀k∈T,k∈S)(hrq:ReqOwn S r w A c A1 c1 A2 c2)(hen:en=s.en)(p:w17)(L':List w17)(hok:j29 L')(hC:∀W,Below w.heap.size w W→Calls Tryz.prog 75 #[bd,.agg #[.slice HA H.length hc],.int .i64 g.j9] W fun e w'=>e=.returned (.tuple #[.agg #[.string ⟨p.1.toArray⟩,.int .i64 p.2.1,.int .i64 p.2.2],.bool true])∧BodyAt T w' bb L'∧Mut T W w'):Calls Tryz.prog 31 #[.pointer (some ⟨b,0,none⟩),.agg #[.slice HA H.length hc]] w fun e w'=>e=.returned (.tuple #[ptV p,.bool true])∧k35 r g S b (if L'=[]then{s with st:=3,en:=0,lf:=[],told:=true}else{s with lf:=L',told:=true}) w w':=by
 have HI:=a_ hI;have HL:=a_ hL;have HTS:=a_ hTS;have HR:=a_ hrq;have HEN:=a_ hen;have HOK:=a_ hok;clear hI hL hTS hrq hen hok;obtain⟨sn,hsn⟩:∃x,(if L'=[]then{s with st:=3,en:=0,lf:=[],told:=true}else{s with lf:=L',told:=true})=x:=⟨_,rfl⟩;rw[hsn];have HSN:=a_ hsn;clear hsn;have HC:=a_ hC;have HB:=a_ hb;have HST:=a_ hst;have HNB:=a_ hnb;have HT:=a_ hT;have HBD:=a_ hbd;have HNX:Hid (w.heap.size∉T):=fun hi=>by have:=hT _ hi;omega
 clear hC hb hst hnb hT hbd;go_enter Tryz.func31,Tryz.ntmps31;go_upto_region 1 with fail;obtain⟨W0,hW0,X0,X1,HB0⟩:=box2 w #[.slice HA H.length hc] 26 #[.string ⟨#[]⟩,.int .i64 0,.int .i64 0] 82;rw[hW0];clear hW0;have KB:Hid (W0.heap[b]?=some (.cells (sesC r A c A1 c1 A2 c2 g s en bd) 132 (0,0))):=j3 HB0.out HB.out;have HD:Hid (W0.cell? ⟨b,26,none⟩=some bd∧W0.cell? ⟨b,23,none⟩=some (.int .i64 g.j9)∧W0.cell? ⟨w.heap.size,0,none⟩=some (.slice HA H.length hc)):=⟨j14 KB.out rfl,j14 KB.out rfl,j14 X0.out rfl⟩;have kz:=q14 KB.out;have x0z:=q14 X0.out;have hs0:=HB0.out.size;have HNZ:Hid (W0.heap.size∉T):=fun hi=>by have:=HT.out _ hi;omega
 have HNW:Hid (∀k∈[W0.heap.size],k∉T):=fun k hk=>by rw[G_]at hk;rw[hk];exact HNZ.out
 go_cut[6,7](fun s6 s7 wx=>∃pb:Nat,s6=.pointer (some ⟨pb,0,none⟩)∧s7=.bool true∧W0.heap.size≤pb∧wx.heap[pb]?=some (.cells #[.string ⟨p.1.toArray⟩,.int .i64 p.2.1,.int .i64 p.2.2] 82 (0,0))∧BodyAt T wx bb L'∧Mut T W0 wx);case first=>
  go_region_held3(fun w'=>w'.cell? ⟨b,26,none⟩=some bd∧w'.cell? ⟨b,23,none⟩=some (.int .i64 g.j9)∧w'.cell? ⟨w.heap.size,0,none⟩=some (.slice HA H.length hc))(((try dsimp only);first|(refine⟨x16 (W:=W0) ?_ HD.out.1,x16 (W:=W0) ?_ HD.out.2.1,x16 (W:=W0) ?_ HD.out.2.2⟩<;>(repeat(first|exact c_ _ _|refine q15 ?_ _|refine x15 ?_|refine q11 ?_ _|refine w14 ?_ (by first|exact v_ _|omega|(dsimp only;omega)|(simp;omega)) _));done)|(refine⟨j88 (W:=W0) ?_ HNB.out HD.out.1,j88 (W:=W0) ?_ HNB.out HD.out.2.1,j88 (W:=W0) ?_ HNX.out HD.out.2.2⟩<;>(repeat(first|exact hmw|refine Mut.drew ?_|refine Mut.alloc ?_ _|refine Mut.set_new (by first|exact v_ _|omega|(dsimp only;omega)|(simp;omega)) _ ?_)))))(first
   |(go_at_call 75;refine(HC.out _ (by repeat(first|exact HB0.out|refine x15 ?_|refine q11 ?_ _))).mono ?_;rintro e w1⟨rfl,hq1,hb1⟩;have hmw:Mut T W0 w1:=(Mut.of_below (by repeat(first|exact c_ _ _|refine x15 ?_|refine q11 ?_ _))).trans hb1;have ZB:Hid (w1.heap[W0.heap.size]?=some (.cells #[.string ⟨#[]⟩,.int .i64 0,.int .i64 0] 82 (0,0))):=hb1.blk _ _ (j17 (w:=W0.drew) rfl) HNZ.out;have z0:w1.cell? ⟨W0.heap.size,0,none⟩=some (.string ⟨#[]⟩):=j14 ZB.out rfl;have z1:w1.cell? ⟨W0.heap.size,1,none⟩=some (.int .i64 0):=j14 ZB.out rfl;have z2:w1.cell? ⟨W0.heap.size,2,none⟩=some (.int .i64 0):=j14 ZB.out rfl;have zf0:=q13 (i:=0) ZB.out;have zf1:=q13 (i:=1) ZB.out;have zf2:=q13 (i:=2) ZB.out;have zz:=q14 ZB.out;clear hb1)
   |(go_at_call 75;refine(HC.out _ (by repeat(first|exact HB0.out|refine x15 ?_|refine q11 ?_ _))).mono ?_;rintro e w1⟨rfl,hq1,hb1⟩;have hmw:Mut T W0 w1:=(Mut.of_below (by repeat(first|exact c_ _ _|refine x15 ?_|refine q11 ?_ _))).trans hb1;clear hb1));all_goals go_wp2_with fail
  all_goals go_meet
  all_goals first|exact⟨_,rfl,rfl,hmw.size,j17 rfl,hq1.alloc _,hmw.alloc _⟩|exact⟨_,rfl,rfl,v_ _,j15 (j15 (j15 ZB.out)),hq1.mut (S:=[W0.heap.size]) HNW.out (Mut.set (p:=⟨W0.heap.size,2,none⟩) (by simp) _ (Mut.set (p:=⟨W0.heap.size,1,none⟩) (by simp) _ (Mut.set (p:=⟨W0.heap.size,0,none⟩) (by simp) _ (Mut.refl _ _)))),Mut.set_new (p:=⟨W0.heap.size,2,none⟩) (v_ _) _ (Mut.set_new (p:=⟨W0.heap.size,1,none⟩) (v_ _) _ (Mut.set_new (p:=⟨W0.heap.size,0,none⟩) (v_ _) _ hmw))⟩
 case rest=>
  obtain⟨pb,rfl,rfl,hpb,hpk,hbo,hmx⟩:=hcut;have hnb:=HNB.out;have hnx1:w.heap.size+1∉T:=fun hi=>by have:=HT.out _ hi;omega
  have KBc:=a_ (hmx.blk _ _ KB.out hnb);have X1c:=a_ (hmx.blk _ _ X1.out hnx1);have HPB:=a_ hpk;have HPO:=a_ hpb;have HBO:=a_ hbo;have HMX:=a_ hmx;have HBW:=a_ (q14 HB.out);have HX1:=a_ (q14 X1.out);clear hpb hpk hbo hmx hnb hnx1;have k28:wc.cell? ⟨b,28,none⟩=some (.bool s.told):=j14 KBc.out rfl;have kf28:wc.frozen? ⟨b,28,none⟩=false:=q13 KBc.out;have kz:=q14 KBc.out;go_upto_region 4 with fail;obtain⟨V1,hV1⟩:∃W,wc.setCell ⟨b,28,none⟩ (.bool true)=W:=⟨_,rfl⟩;have K1:Hid (V1.heap[b]?=some (.cells (sesC r A c A1 c1 A2 c2 g {s with told:=true} en bd) 132 (0,0))):=by rw[←hV1];exact j15 KBc.out
  have M1:Hid (Mut [b] wc V1):=by rw[←hV1];exact Mut.set (p:=⟨b,28,none⟩) (by simp) _ (Mut.refl _ _)
  rw[hV1];clear hV1 k28 kf28 kz;have HBO1:Hid (BodyAt T V1 bb L'):=HBO.out.mut (S:=[b]) (fun k hk=>by rw[G_]at hk;rw[hk];exact HNB.out) M1.out;obtain⟨bA,bc,bn,hbn,bsent,hbk,hprow⟩:=HBO1.out.blk;subst hbn;obtain⟨V2,bd2,h9,k9,m9,hbd2⟩:∃V2 bd2,(if L'.length=0 then(V1.setCell ⟨b,24,none⟩ (.int .i64 3)).setCell ⟨b,26,none⟩ (.pointer none)else V1)=V2∧V2.heap[b]?=some (.cells (sesC r A c A1 c1 A2 c2 g sn en bd2) 132 (0,0))∧Mut [b] V1 V2∧(L'=[]→bd2=.pointer none)∧(L'≠[]→bd2=bd):=by
   have hsn:=HSN.out;by_cases hp:L'=[];·rw[B_ hp]at hsn;subst hsn;exact⟨_,.pointer none,B_ (by rw[hp];rfl),j15 (j15 K1.out),Mut.set (p:=⟨b,26,none⟩) (by simp) _ (Mut.set (p:=⟨b,24,none⟩) (by simp) _ (Mut.refl _ _)),fun _=>rfl,fun h=>absurd hp h⟩
   ·rw[w_ hp]at hsn;subst hsn;exact⟨_,bd,w_ (fun h=>hp (n_ h)),K1.out,Mut.refl _ _,fun h=>absurd h hp,fun _=>rfl⟩
  have HE9:Hid (Calls Tryz.prog 69 #[.pointer (some ⟨b,0,none⟩)] V1 fun e w'=>e=.returned (.tuple #[])∧w'=V2):=by
   have e1:(sesC r A c A1 c1 A2 c2 g {s with told:=true} en bd)[24]?=some (.int .i64 s.st):=rfl;have e2:(sesC r A c A1 c1 A2 c2 g {s with told:=true} en bd)[26]?=some bd:=rfl;have e3:some (Value.int .i64 s.st)=some (.int .i64 2):=by rw[HST.out]
   have e4:some bd=some (.pointer (some ⟨bb,0,none⟩)):=by rw[HBD.out]
   have h:=q62 b bb _ bA bc L'.length bsent V1 K1.out (e1.trans e3) (e2.trans e4) hbk;rw[h9]at h;exact h
  have K2:=a_ k9;have M2:Hid (Mut [b] wc V2):=M1.out.trans m9;have HB2:=a_ hbd2;clear h9 k9 m9 hbk hprow HBO1 hbd2;have hpbb:pb≠b:=by have:=HPO.out;have:=HB0.out.size;have:=HBW.out;omega
  have hxb:w.heap.size+1≠b:=by have:=HBW.out;omega
  have PB2:=a_ (M2.out.blk _ _ HPB.out (by simpa using hpbb));have X12:=a_ (M2.out.blk _ _ X1c.out (by simpa using hxb));go_upto_region 5 with(go_at_call 69;refine HE9.out.mono ?_;rintro e v2⟨rfl,hv2⟩;obtain rfl:V2=v2:=hv2.symm);have p0:=j14 (i:=0) PB2.out rfl;have p1:=j14 (i:=1) PB2.out rfl;have p2:=j14 (i:=2) PB2.out rfl;have pz:=q14 PB2.out;have z0:=j14 (i:=0) X12.out rfl;have z1:=j14 (i:=1) X12.out rfl;have z2:=j14 (i:=2) X12.out rfl;have zf0:=q13 (i:=0) X12.out;have zf1:=q13 (i:=1) X12.out;have zf2:=q13 (i:=2) X12.out;have zz:=q14 X12.out;go_wp2_with fail;obtain⟨W4,hW4⟩:∃W,((V2.setCell ⟨w.heap.size+1,0,none⟩ (.string ⟨p.1.toArray⟩)).setCell ⟨w.heap.size+1,1,none⟩ (.int .i64 p.2.1)).setCell ⟨w.heap.size+1,2,none⟩ (.int .i64 p.2.2)=W:=⟨_,rfl⟩;have X4:Hid (W4.heap[w.heap.size+1]?=some (.cells #[.string ⟨p.1.toArray⟩,.int .i64 p.2.1,.int .i64 p.2.2] 82 (0,0))):=by rw[←hW4];exact j15 (j15 (j15 X12.out))
  have M4:Hid (Mut [w.heap.size+1] V2 W4):=by rw[←hW4];exact Mut.set (p:=⟨w.heap.size+1,2,none⟩) (by simp) _ (Mut.set (p:=⟨w.heap.size+1,1,none⟩) (by simp) _ (Mut.set (p:=⟨w.heap.size+1,0,none⟩) (by simp) _ (Mut.refl _ _)))
  rw[hW4];clear hW4 z0 z1 z2 zz zf0 zf1 zf2 p0 p1 p2 pz;have z0:=j14 (i:=0) X4.out rfl;have z1:=j14 (i:=1) X4.out rfl;have z2:=j14 (i:=2) X4.out rfl;refine u_ (by simp[results,Tryz.results31,go_sem,z0,z1,z2];try rfl) rfl ?_;have hk4:=M4.out.blk _ _ K2.out (by simpa using bn_ hxb);have hm24:Mut [b,w.heap.size+1] wc W4:=(M2.out.mono (by simp)).trans (M4.out.mono (by simp));have hm:Mut S w W4:=((Mut.of_below HB0.out).trans (HMX.out.mono HTS.out)).trans_new hm24 (fun k hk=>by
   simp only[E_,O_,aL_]at hk;rcases hk with rfl|rfl;·exact .inl HI.out
   ·exact .inr (by omega));have hbo:BodyAt T W4 bb L':=HBO.out.mut (fun k hk hi=>by
   simp only[E_,O_,aL_]at hk;rcases hk with rfl|rfl;·exact HNB.out hi
   ·have:=HT.out _ hi;omega) hm24;refine⟨rfl,?_⟩;have hsn:=HSN.out;have hlt:∀k∈S,k<W4.heap.size:=fun k hk=>P_ (HL.out k hk) hm.size;by_cases hp:L'=[];·rw[B_ hp]at hsn;rw[HB2.out.1 hp]at hk4;subst hsn;exact j28 ⟨HI.out,hlt,A,c,A1,c1,A2,c2,_,_,hk4,HR.out.mut hm,fun hst=>absurd hst (by simp),fun _=>⟨rfl,rfl⟩⟩ hm
  ·rw[w_ hp]at hsn;rw[HB2.out.2 hp]at hk4;subst hsn;exact j28 ⟨HI.out,hlt,A,c,A1,c1,A2,c2,_,_,hk4,HR.out.mut hm,fun _=>⟨HEN.out,hp,HOK.out,bb,HBD.out,hbo.mono HTS.out⟩,fun hst=>absurd HST.out hst⟩ hm
def v98(r:ReqC)(g:CfgL)(S:List Nat)(b:Nat)(s:SesL)(H:List (Int×Int))(w:World)(e:Ending)(w':World):Prop:=(s.nextS H g.j9=none→e=.returned (.tuple #[ptV ([],(0,0)),.bool false])∧k35 r g S b s w w')∧(∀p s',s.nextS H g.j9=some (p,s')→e=.returned (.tuple #[ptV p,.bool true])∧k35 r g S b s' w w')
theorem k62(r:ReqC)(g:CfgL)(S:List Nat)(b:Nat)(s:SesL)(w:World)(h:SesAt r g S w b s)(HA:Option Addr)(hc:Nat)(H:List (Int×Int))(hsp:Sp w HA hc H)(hcan:Canon H)(hl:H.length≤10000)(hcs:1≤g.j9∧g.j9≤4611686018427387904):Calls Tryz.prog 31 #[.pointer (some ⟨b,0,none⟩),.agg #[.slice HA H.length hc]] w (v98 r g S b s H w):=by
 obtain⟨A,c,A1,c1,A2,c2,en,bd,hb,hrq,hT,hN⟩:=h.blk;by_cases hst:s.st=2;rotate_left;·obtain⟨rfl,hen⟩:=hN hst;refine(v94 r A c A1 c1 A2 c2 g s en _ b HA hc H w hb (fun W _=>q115 HA hc H g.j9 W)).mono ?_;rintro e w'⟨rfl,hbw⟩;have hv:s.nextS H g.j9=none:=w_ hst;exact⟨fun _=>⟨rfl,j28 (h.alloc hbw) (Mut.of_below hbw)⟩,fun p s' h=>by rw[hv]at h;cases h⟩
 obtain⟨hen,hne,hok,bb,hbd,hbo⟩:=hT hst;obtain⟨T,ht1,ht2,ht3⟩:=hbo.small hne hb;subst hbd;have hv:s.nextS H g.j9=(w43 H g.j9 s.lf).map fun x=>(x.1,if x.2=[]then{s with st:=3,en:=0,lf:=[],told:=true}else{s with lf:=x.2,told:=true}):=B_ hst;cases ht:w43 H g.j9 s.lf with
  |none=>rw[ht]at hv;refine(v94 r A c A1 c1 A2 c2 g s en _ b HA hc H w hb (fun W hW=>(q75 T bb s.lf W (ht1.below hW) hok HA hc H (hsp.below hW) hcan hl g.j9 hcs).mono fun e w' h=>h.1 ht)).mono ?_;rintro e w'⟨rfl,hbw⟩;exact⟨fun _=>⟨rfl,j28 (h.alloc hbw) (Mut.of_below hbw)⟩,fun p s' h=>by rw[hv]at h;cases h⟩
  |some x=>obtain⟨p,L'⟩:=x;rw[ht]at hv;have hok':=(j126 hcan hcs.1 hok ht).1;refine(k122 r A c A1 c1 A2 c2 g s en _ b HA hc H w hb bb rfl T ht3 (fun k hk=>h.lt k (ht2 k hk)) hst S h.in_ h.lt ht2 hrq hen p L' hok' (fun W hW=>(q75 T bb s.lf W (ht1.below hW) hok HA hc H (hsp.below hW) hcan hl g.j9 hcs).mono fun e w' h=>h.2 p L' ht)).mono ?_;rintro e w'⟨rfl,hpost⟩;refine⟨fun h=>(by rw[hv]at h;cases h),fun q s' h=>?_⟩;rw[hv]at h;simp only[Option.map_some,Option.some.injEq,Prod.mk.injEq]at h;obtain⟨rfl,rfl⟩:=h;exact⟨rfl,hpost⟩
theorem j183:(Tryz.prog.info? 78).map (·.size)=some 27:=by kernel_rfl
def j115:Array Value:=#[.int .u8 0,.int .i64 0,.string ⟨#[]⟩,.string ⟨#[]⟩,.bool false,.int .i64 0,.int .i64 0,.int .i64 0,.int .i64 0,.int .i64 0,.int .i64 0,.slice none 0 0,.string ⟨#[]⟩,.bool false,.int .i64 0,.int .i64 0,.int .i64 0,.bool false,.int .i64 0,.int .i64 0,.int .i64 0,.int .i64 0,.slice none 0 0,.slice none 0 0,.bool false,.bool false,.bool false]
theorem v115(ρ:Operand→Value)(w:World)(o:Oper)(ho:o.op=.alloc 78):(execOp ρ o).run Tryz.prog w=.ok (.value (.pointer (some ⟨w.heap.size,0,none⟩))) (w.alloc (.cells j115 78)):=by unfold execOp;rw[ho];unfold j115;go_simp
theorem q50{ops:Array Oper}{rest:List Oper}{op:Oper}{a:Act}{w:World}{Q:Exit→Act→World→Prop}(hgd:op.guard=none)(ho:op.op=.alloc 78)(h:wpList Tryz.prog ops Q rest (a.put op.dst (.pointer (some ⟨w.heap.size,0,none⟩))) (w.alloc (.cells j115 78))):wpList Tryz.prog ops Q (op::rest) a w:=wpList_plain hgd fun _ hK=>by unfold Oper.wp;rw[v115 a.eval w op ho,Oper.upon_value];exact hK _ _ h
theorem k137(ρ:Operand→Value)(w:World)(o:Oper)(x i:Operand)(ho:o.op=.indexAddr 52 x i)(b off n c k:Nat)(hx:ρ x=.slice (some ⟨b,off,none⟩) n c)(hi:ρ i=.int .i64 (k:Int))(hk:k<n):(execOp ρ o).run Tryz.prog w=.ok (.value (.pointer (some ⟨b,off+k*27,none⟩))) w:=by
 have hk0:(0:Int)≤(k:Int):=by omega
 have hk1:(k:Int)<(n:Int):=by omega
 unfold execOp;rw[ho];simp only[hx,hi];go_simp
theorem y55{ops:Array Oper}{rest:List Oper}{op:Oper}{a:Act}{w:World}{Q:Exit→Act→World→Prop}(hgd:op.guard=none)(x i:Operand)(ho:op.op=.indexAddr 52 x i)(b off n c k:Nat)(hx:a.eval x=.slice (some ⟨b,off,none⟩) n c)(hi:a.eval i=.int .i64 (k:Int))(hk:k<n)(h:wpList Tryz.prog ops Q rest (a.put op.dst (.pointer (some ⟨b,off+k*27,none⟩))) w):wpList Tryz.prog ops Q (op::rest) a w:=wpList_plain hgd fun _ hK=>by unfold Oper.wp;rw[k137 a.eval w op x i ho b off n c k hx hi hk,Oper.upon_value];exact hK _ _ h
theorem j75{α:Type}{en:α→List Value}{n:Nat}{w:World}{b off c:Nat}{L:List α}(h:SpG en n w (some ⟨b,off,none⟩) c L){k:Nat}(hk:k<L.length):w.rangeAt b (off+k*n) (en L[k]):=fun j v hv=>h.cell hk hv
theorem rparts_same(A:Option Addr)(c:Nat)(A':Option Addr)(c':Nat)(P:List w17)(w:World)(h1:SpG j18 3 w A c P)(h2:SpG j18 3 w A' c' P)(hl:P.length≤10000):Calls Tryz.prog 30 #[.slice A P.length c,.slice A' P.length c'] w fun e w'=>e=.returned (.bool true)∧Below w.heap.size w w':=by
 have H1:=a_ h1;have H2:=a_ h2;clear h1 h2;go_enter Tryz.func30,Tryz.ntmps30;go_wp2_with fail;go_loopw[5,13](fun _ i wr=>∃k:Nat,k≤P.length∧i=.int .i64 (k:Int)∧Below w.heap.size w wr)(fun _ i _=>P.length-(intOf i).toNat);case atStart=>exact⟨0,s_ _,rfl,c_ _ _⟩
 case round=>
  obtain⟨k,hk,rfl,hbw⟩:=hrel;have HBL:=a_ hbw;clear hbw;by_cases hlt:k<P.length;·
   obtain⟨b,off,e,hb,hc⟩:=((H1.out.below (c_ w.heap.size w)).below HBL.out).at' k hlt;obtain⟨b',off',e',hb',hc'⟩:=((H2.out.below (c_ w.heap.size w)).below HBL.out).at' k hlt;have c0:=hc 0 _ rfl;have c1:=hc 1 _ rfl;have c2:=hc 2 _ rfl;have d0:=hc' 0 _ rfl;have d1:=hc' 1 _ rfl;have d2:=hc' 2 _ rfl;simp only[M_]at c0 d0;obtain⟨⟨t,x1,x2⟩,hx⟩:∃p,P[k]=p:=⟨_,rfl⟩;rw[hx]at c0 c1 c2 d0 d1 d2;simp only at c0 c1 c2 d0 d1 d2;clear hx hc hc';subst e e';have hk0:(0:Int)≤(k:Int):=by omega
   have hk1:(k:Int)<(P.length:Int):=by omega
   go_upto_region 6 with fail;go_quiet(fail);go_wp2_with fail;go_roundw;case rel=>exact⟨k+1,by omega,by go_num,q15 HBL.out _⟩
   case measure=>simp[intOf];omega
  ·go_wp2_with fail;go_ret;exact⟨rfl,HBL.out⟩
theorem k115(tg:List UInt8)(wk:Bool)(mo ln hv fr wh er:Int)(ks:List (List UInt8))(tn:List UInt8)(kp:Bool)(KA:Option Addr)(kc:Nat)(w:World)(h:SpG encT 1 w KA kc ks):Calls Tryz.prog 22 #[.agg #[.string ⟨tg.toArray⟩,.bool wk,.int .i64 mo,.int .i64 ln,.int .i64 hv,.int .i64 fr,.int .i64 wh,.int .i64 er,.slice KA ks.length kc,.string ⟨tn.toArray⟩,.bool kp]] w (w51 (j46 ⟨tg,wk,mo,ln,hv,fr,wh,er,ks,tn,kp⟩) w):=k133 ⟨tg,wk,mo,ln,hv,fr,wh,er,ks,tn,kp⟩ KA kc w h
structure SmallC(r:ReqC)(g:CfgL)(L:List OpX):Prop where
 r:FewR r
 l:L.length≤20
 ch:g.j9≤200
 o:∀x∈L,q43 x
theorem x137{L:List OpX}{k:Nat}(hk:k<L.length)(h:∀x∈L.take k,q43 x)(h2:q43 L[k]):∀x∈L.take (k+1),q43 x:=by
 rw[m_ hk];intro x hx;rcases z_.1 hx with hx|hx;·exact h x hx
 ·rw[G_]at hx;rw[hx];exact h2
theorem k83(r:ReqC)(A:Option Addr)(c:Nat)(A1:Option Addr)(c1:Nat)(A2:Option Addr)(c2:Nat)(a1 a2 a3:Int)(g:CfgL)(LA:Option Addr)(lc:Nat)(L:List OpX)(w:World)(h:ReqAt r w A c A1 c1 A2 c2)(hrt:r.k.rt.length≤4611686018427387904)(hL:SpG w19 27 w LA lc L)(hll:L.length≤9223372036854775807)(ho:∀o∈L,OpAt w o):Calls Tryz.prog 21 #[.agg (k57 r A c A1 c1 A2 c2 a1 a2 a3 g LA L.length lc)] w (w51 (SmallC r g L) w):=by
 have HF:=fun W h=>a_ (w148 r A c A1 c1 A2 c2 W h hrt);have HS:=a_ h;have HL:=a_ hL;have HO:=a_ ho;clear h hrt hL ho;unfold k57;unfold reqC at HF;go_enter Tryz.func21,Tryz.ntmps21;go_upto_region 1 with fail;obtain⟨W0,hW0,X0,HB0⟩:=box1 w #[.bool r.hd,.string ⟨r.ob.toArray⟩,.slice A r.L.length c,.slice A1 r.k.M.length c1,.slice A2 r.k.N.length c2,.bool r.k.am,.bool r.k.an,.int .i64 r.k.si,.int .i64 r.k.un,.string ⟨r.k.rt.toArray⟩,.bool r.k.rw,.int .i64 a1,.int .i64 a2,.int .i64 a3,.int .i64 g.j0,.int .i64 g.j1,.int .i64 g.j2,.int .i64 g.cs,.int .i64 g.j4,.int .i64 g.j5,.int .i64 g.j6,.int .i64 g.j7,.int .i64 g.j8,.int .i64 g.j9,.slice LA L.length lc] 54;rw[hW0];clear hW0;obtain⟨v0,v1,v2,v3,v4,v5,v6,v7,v8,v9,v10,_⟩:=bc25 X0.out;have vz:=q14 X0.out;go_wp2_with fail;refine(HF _ (HS.out.below HB0.out)).out.mono ?_;rintro e w1⟨b,rfl,hq,hb1⟩;have HB1:=a_ (q12 hb1 HB0.out);cases b with
  |false=>clear hq hb1;go_wp2_with fail;go_ret;exact j181 HB1.out
  |true=>
   have HFR:=a_ (hq rfl);have X1:=a_ (j3 hb1 X0.out);clear hq hb1 v0 v1 v2 v3 v4 v5 v6 v7 v8 v9 v10 vz X0 HB0;have v23:=bc 23 X1.out rfl;have v24:=bc 24 X1.out rfl;have vz:=q14 X1.out;by_cases h20:L.length≤20;rotate_left;·
    have h20':(20:Int)<(L.length:Int):=by omega
    go_wp2_with fail;go_ret;exact j181 HB1.out
   have h20':¬(20:Int)<(L.length:Int):=by omega
   by_cases h200:g.j9≤200;rotate_left;·
    have h200':(200:Int)<g.j9:=by omega
    go_wp2_with fail;go_ret;exact j181 HB1.out
   have h200':¬(200:Int)<g.j9:=by omega
   have H20:=a_ h20;have H200:=a_ h200;clear h20 h200;go_wp2_with fail;go_loopw[4,24](fun _ i wr=>∃k:Nat,k≤L.length∧i=.int .i64 (k:Int)∧(∀x∈L.take k,q43 x)∧Below w1.heap.size w1 wr)(fun _ i _=>L.length-(intOf i).toNat);case atStart=>exact⟨0,s_ _,rfl,(fun x hx=>by simp at hx),c_ _ _⟩
   case round=>
    obtain⟨k,hk,rfl,hall,hbw⟩:=hrel;have HAL:=a_ hall;have HBL:=a_ hbw;clear hall hbw;by_cases hlt:k<L.length;·
     obtain⟨b,off,e,hb,hc⟩:=((HL.out.below HB1.out).below HBL.out).at' k hlt;subst e;have HRG:=a_ (j75 ((HL.out.below HB1.out).below HBL.out) hlt);have HOP:=a_ (((HO.out _ (A_ hlt)).below HB1.out).below HBL.out);have HST:=a_ (x137 hlt HAL.out);obtain⟨op,hop⟩:∃o,L[k]=o:=⟨_,rfl⟩;rw[hop]at HOP HST HRG;clear hop hc hb;have HLT:=a_ hlt;go_upto_region 5 with fail;refine aq_ ?_;refine y55 rfl (.tmp 22) (.tmp 24) rfl b off L.length lc k rfl rfl HLT.out ?_;simp only[Act.put,b_,e_,d_];refine wpList_load_mid rfl 78 (.tmp 26) rfl b (off+k*27) rfl (w19 op) _ HRG.out Tryz.underlying78 rfl j183 ?_;simp only[Act.put,b_,e_,d_];refine q50 rfl rfl ?_;simp only[Act.put,b_,e_,d_];refine q20 rfl 78 (.tmp 4) (.tmp 27) rfl rfl rfl (j17 rfl) rfl j183 (by simp[w19,Value.oneCell']) ?_;intro w5 hst;simp only[Act.put];obtain⟨kd,id,ob,⟨tg,wk,mo,ln,hv,fr,wh,er,ks,tn,kp⟩,KA,kc,y1,y2,y3,tu,b1,b2,b3,nn,HA,jc,HH,FA,fc,FF,tr,fa,jo⟩:=op;have HOB:Hid (w5.heap[wr.heap.size]?=some (.cells #[.int .u8 kd,.int .i64 id,.string ⟨ob.toArray⟩,.string ⟨tg.toArray⟩,.bool wk,.int .i64 mo,.int .i64 ln,.int .i64 hv,.int .i64 fr,.int .i64 wh,.int .i64 er,.slice KA ks.length kc,.string ⟨tn.toArray⟩,.bool kp,.int .i64 y1,.int .i64 y2,.int .i64 y3,.bool tu,.int .i64 b1,.int .i64 b2,.int .i64 b3,.int .i64 nn,.slice HA HH.length jc,.slice FA FF.length fc,.bool tr,.bool fa,.bool jo] 78 (0,0))):=hst.blk;have HB5:Hid (Below wr.heap.size wr w5):=hst.bel wr (q11 (c_ _ _) _) (v_ _);clear hst HRG;have o2:=bc 2 HOB.out rfl;have o3:=bc 3 HOB.out rfl;have o4:=bc 4 HOB.out rfl;have o5:=bc 5 HOB.out rfl;have o6:=bc 6 HOB.out rfl;have o7:=bc 7 HOB.out rfl;have o8:=bc 8 HOB.out rfl;have o9:=bc 9 HOB.out rfl;have o10:=bc 10 HOB.out rfl;have o11:=bc 11 HOB.out rfl;have o12:=bc 12 HOB.out rfl;have o13:=bc 13 HOB.out rfl;have o22:=bc 22 HOB.out rfl;have o23:=bc 23 HOB.out rfl;have oz:=q14 HOB.out;have HK:Hid (SpG encT 1 w5 KA kc ks):=HOP.out.k.below HB5.out;have hsz:(⟨ob.toArray⟩:ByteArray).size=ob.length:=q19 ob;go_wp2_with fail;refine(k115 tg wk mo ln hv fr wh er ks tn kp KA kc _ HK.out).mono ?_;rintro e w6⟨bs,rfl,hqs,hb6⟩;have HB6:=a_ (q12 hb6 HB5.out);have HOB6:=a_ (j3 hb6 HOB.out);clear hb6 o2 o3 o4 o5 o6 o7 o8 o9 o10 o11 o12 o13 o22 o23 oz HOB;cases bs with
      |false=>clear hqs;go_wp2_with fail;go_ret;exact j181 (q12 (q12 HB6.out HBL.out) HB1.out)
      |true=>
       have HQS:=a_ (hqs rfl);clear hqs;have o2:=bc 2 HOB6.out rfl;have o22:=bc 22 HOB6.out rfl;have o23:=bc 23 HOB6.out rfl;have oz:=q14 HOB6.out;by_cases g1:ob.length≤100;rotate_left;·
        have g1':(100:Int)<(ob.length:Int):=by omega
        go_wp2_with fail;go_ret;exact j181 (q12 (q12 HB6.out HBL.out) HB1.out)
       have g1':¬(100:Int)<(ob.length:Int):=by omega
       by_cases g2:HH.length≤8;rotate_left;·
        have g2':(8:Int)<(HH.length:Int):=by omega
        go_wp2_with fail;go_ret;exact j181 (q12 (q12 HB6.out HBL.out) HB1.out)
       have g2':¬(8:Int)<(HH.length:Int):=by omega
       by_cases g3:FF.length≤8;rotate_left;·
        have g3':(8:Int)<(FF.length:Int):=by omega
        go_wp2_with fail;go_ret;exact j181 (q12 (q12 HB6.out HBL.out) HB1.out)
       have g3':¬(8:Int)<(FF.length:Int):=by omega
       have HS2:=a_ (HST.out ⟨HQS.out,g1,g2,g3⟩);clear g1 g2 g3;go_wp2_with fail;go_roundw;case rel=>exact⟨k+1,by have:=HLT.out;omega,by go_num,HS2.out,q12 HB6.out HBL.out⟩
       case measure=>simp[intOf];omega
    ·go_wp2_with fail;go_ret;exact x97 ⟨HFR.out,H20.out,H200.out,by have h:=HAL.out;rw[t_ (by omega)]at h;exact h⟩ (q12 HBL.out HB1.out)
def k94(r:ReqC)(A:Option Addr)(c:Nat)(A1:Option Addr)(c1:Nat)(A2:Option Addr)(c2:Nat)(g:CfgL)(a1 a2 a3:Int)(b cb bs:Nat):List (Value→World→Prop):=[fun v _=>v=.pointer (some ⟨b,0,none⟩),fun v _=>v=.pointer (some ⟨cb,0,none⟩),fun v _=>v=.agg (reqC r A c A1 c1 A2 c2),fun v _=>v=.pointer (some ⟨cb,11,none⟩),fun v _=>v=.agg #[.int .i64 a1,.int .i64 a2,.int .i64 a3],fun v _=>v=.agg #[.int .i64 a1,.int .i64 a2,.int .i64 a3],fun v _=>v=.pointer (some ⟨cb,14,none⟩),fun v _=>v=.agg (cfgC g),fun v w'=>∃b2,v=.pointer (some ⟨b2,0,none⟩)∧bs≤b2∧SexAt r g [b2,b] w' b2 (newS g a1 a2 a3)]
theorem y137(r:ReqC)(A:Option Addr)(c:Nat)(A1:Option Addr)(c1:Nat)(A2:Option Addr)(c2:Nat)(g:CfgL)(a1 a2 a3:Int)(b cb bs:Nat):∀f∈k94 r A c A1 c1 A2 c2 g a1 a2 a3 b cb bs,∀v w w',f v w→Below w.heap.size w w'→f v w':=by
 intro f hf;simp only[k94,E_,O_,aL_]at hf;rcases hf with rfl|rfl|rfl|rfl|rfl|rfl|rfl|rfl|rfl;·exact fun _ _ _ h _=>h
 ·exact fun _ _ _ h _=>h
 ·exact fun _ _ _ h _=>h
 ·exact fun _ _ _ h _=>h
 ·exact fun _ _ _ h _=>h
 ·exact fun _ _ _ h _=>h
 ·exact fun _ _ _ h _=>h
 ·exact fun _ _ _ h _=>h
 ·exact(fun v w w' h hb=>h.imp fun b2 h2=>⟨h2.1,h2.2.1,h2.2.2.alloc hb⟩)
def k159(r:ReqC)(g:CfgL)(a1 a2 a3:Int)(w:World)(e:Ending)(w':World):Prop:=((j23 r&&x26 g)=false→e=.returned (.tuple #[.pointer none,.pointer none,.bool true])∧Below w.heap.size w w')∧((j23 r&&x26 g)=true→∃b b2,e=.returned (.tuple #[.pointer (some ⟨b,0,none⟩),.pointer (some ⟨b2,0,none⟩),.bool true])∧Both r g w [b] [b2,b] w' b b2 (newS g a1 a2 a3) (newS g a1 a2 a3))
theorem x94(r:ReqC)(A:Option Addr)(c:Nat)(A1:Option Addr)(c1:Nat)(A2:Option Addr)(c2:Nat)(a1 a2 a3:Int)(g:CfgL)(LA:Option Addr)(lc:Nat)(L:List OpX)(w:World)(h:ReqAt r w A c A1 c1 A2 c2)(hs:ShortR r):Calls Tryz.prog 24 #[.agg (k57 r A c A1 c1 A2 c2 a1 a2 a3 g LA L.length lc)] w (k159 r g a1 a2 a3 w):=by
 have HS:=a_ h;have HN:=fun W h=>a_ (q94 r g a1 a2 a3 A c A1 c1 A2 c2 W h hs);have HRT:=fun W h=>a_ (q122 r g A c A1 c1 A2 c2 W h hs);clear h hs;obtain⟨V,hV⟩:∃V,(j23 r&&x26 g)=V:=⟨_,rfl⟩;have HV:=a_ hV;rw[hV]at HRT;clear hV;unfold k57;unfold reqC cfgC at HN HRT;go_enter Tryz.func24,Tryz.ntmps24;go_upto_region 1 with fail;obtain⟨W0,hW0,X0,HB0⟩:=box1 w #[.bool r.hd,.string ⟨r.ob.toArray⟩,.slice A r.L.length c,.slice A1 r.k.M.length c1,.slice A2 r.k.N.length c2,.bool r.k.am,.bool r.k.an,.int .i64 r.k.si,.int .i64 r.k.un,.string ⟨r.k.rt.toArray⟩,.bool r.k.rw,.int .i64 a1,.int .i64 a2,.int .i64 a3,.int .i64 g.j0,.int .i64 g.j1,.int .i64 g.j2,.int .i64 g.cs,.int .i64 g.j4,.int .i64 g.j5,.int .i64 g.j6,.int .i64 g.j7,.int .i64 g.j8,.int .i64 g.j9,.slice LA L.length lc] 54;rw[hW0];clear hW0;obtain⟨v0,v1,v2,v3,v4,v5,v6,v7,v8,v9,v10,v11,v12,v13,v14,v15,v16,v17,v18,v19,v20,v21,v22,v23,_⟩:=bc25 X0.out;have vz:=q14 X0.out;go_wp2_with fail;refine(HN _ (HS.out.below HB0.out)).out.mono ?_;rintro e w1⟨hno,hyes,hb1⟩;have HB1:=a_ (q12 hb1 HB0.out);have X1:=a_ (j3 hb1 X0.out);rw[HV.out]at hno hyes;clear hb1 X0 v0 v1 v2 v3 v4 v5 v6 v7 v8 v9 v10 v11 v12 v13 v14 v15 v16 v17 v18 v19 v20 v21 v22 v23 vz;obtain⟨v0,v1,v2,v3,v4,v5,v6,v7,v8,v9,v10,v11,v12,v13,v14,v15,v16,v17,v18,v19,v20,v21,v22,v23,_⟩:=bc25 X1.out;have vz:=q14 X1.out;cases V with
  |false=>obtain rfl:=hno rfl;clear hno hyes;go_wp2_with fail;refine(HRT _ (HS.out.below HB1.out)).out.mono ?_;rintro e w2⟨rfl,hb2⟩;have HB2:=a_ (q12 hb2 HB1.out);clear hb2;go_wp2_with fail;refine u_ (by simp[results,Tryz.results24,go_sem];try rfl) rfl ?_;exact⟨fun _=>⟨rfl,HB2.out⟩,fun h=>by rw[HV.out]at h;cases h⟩
  |true=>
   obtain⟨b,rfl,hlb,hsb⟩:=hyes rfl;have HSB:=a_ hsb;have HLB:=a_ hlb;clear hno hyes hsb hlb;go_wp2_with fail;refine(HRT _ (HS.out.below HB1.out)).out.mono ?_;rintro e w3⟨rfl,hb2⟩;have HB3:=a_ (q12 hb2 HB1.out);have X3:=a_ (j3 hb2 X1.out);have HSB3:=a_ (HSB.out.alloc hb2);clear hb2 HRT HN X1 v0 v1 v2 v3 v4 v5 v6 v7 v8 v9 v10 v11 v12 v13 v14 v15 v16 v17 v18 v19 v20 v21 v22 v23 vz;go_upto_region 6 with fail;have HAS:Hid (∀W,Hid (Calls Tryz.prog 64 #[.agg #[.int .i64 a1,.int .i64 a2,.int .i64 a3]] W fun e w'=>∃v,e=.returned v∧(fun v _=>v=.agg #[.int .i64 a1,.int .i64 a2,.int .i64 a3]) v w'∧Below W.heap.size W w')):=fun W=>a_ ((q103 a1 a2 a3 W).mono fun e w' h=>⟨_,h.1,rfl,h.2⟩);have HNX:Hid (∀W,Below w3.heap.size w3 W→Hid (Calls Tryz.prog 63 #[.agg (reqC r A c A1 c1 A2 c2),.agg #[.int .i64 a1,.int .i64 a2,.int .i64 a3],.agg (cfgC g)] W fun e w'=>∃v,e=.returned v∧(fun v w'=>∃b2,v=.pointer (some ⟨b2,0,none⟩)∧w3.heap.size≤b2∧SexAt r g [b2,b] w' b2 (newS g a1 a2 a3)) v w'∧Below W.heap.size W w')):=fun W hW=>by have hrq:ReqIn [b] r W A c A1 c1 A2 c2:=((HS.out.fresh (S:=[b]) (by have:=HLB.out;have:=HB0.out.size;simp;omega)).below HB3.out).below hW;refine a_ ((w135 r g a1 a2 a3 A c A1 c1 A2 c2 [b] W hrq (by have:=HSB3.out.lt b (by simp);have:=hW.size;simp;omega)).mono ?_);rintro e w'⟨b2,rfl,h1,h2,h3⟩;exact⟨_,rfl,⟨b2,rfl,ag_ hW.size h1,h2⟩,h3⟩
   refine k44 (vs0:=fun _=>undef) 9 rfl (by kernel_rfl) [35,36,37,38,39,40,41,42,43] (by decide) rfl (RInv w3 (FG (k94 r A c A1 c1 A2 c2 g a1 a2 a3 b w.heap.size w3.heap.size) w3.heap.size 69 q33) (fun j=>decide (9≤j))) (by simp only[puts,Act.put,b_,e_,d_]) (RInv.start 9 (x15 (c_ _ _))) ?_ ?_;·
    intro i oo li vs wx ho hi hdep hI K hK;have hmono:∀j vq wq wr,FG (k94 r A c A1 c1 A2 c2 g a1 a2 a3 b w.heap.size w3.heap.size) w3.heap.size 69 q33 j vq wq→Below wq.heap.size wq wr→FG (k94 r A c A1 c1 A2 c2 g a1 a2 a3 b w.heap.size w3.heap.size) w3.heap.size 69 q33 j vq wr:=FG.mono (y137 r A c A1 c1 A2 c2 g a1 a2 a3 b w.heap.size w3.heap.size);rcases i with _|_|_|_|_|_|_|_|_|i;·have ho:=h_ ho;subst ho;simp only[puts,Act.put,b_,e_,d_]at hK⊢;go_simp;exact hK.out _ _ (hI.step hmono (c_ _ _) rfl rfl)
    ·have ho:=h_ ho;subst ho;simp only[puts,Act.put,b_,e_,d_]at hK⊢;go_simp;exact hK.out _ _ (hI.step hmono (c_ _ _) rfl rfl)
    ·have ho:=h_ ho;have e1:vs 1=.pointer (some ⟨w.heap.size,0,none⟩):=hI.facts 1 (hdep ⟨1,.data⟩ (by rw[←ho];simp) rfl);have hX:=j3 hI.bel X3.out;subst ho;simp only[puts,Act.put,b_,e_,d_]at hK⊢;refine be_ 47 (.tmp 36) rfl w.heap.size 0 e1 (reqC r A c A1 c1 A2 c2).toList _ (k40 hX 0 rfl) bg_ rfl (by kernel_rfl) ?_;exact hK.out _ _ (hI.step hmono (c_ _ _) rfl rfl)
    ·have ho:=h_ ho;subst ho;simp only[puts,Act.put,b_,e_,d_]at hK⊢;go_simp;exact hK.out _ _ (hI.step hmono (c_ _ _) rfl rfl)
    ·have ho:=h_ ho;have e3:vs 3=.pointer (some ⟨w.heap.size,11,none⟩):=hI.facts 3 (hdep ⟨3,.data⟩ (by rw[←ho];simp) rfl);have hX:=j3 hI.bel X3.out;subst ho;simp only[puts,Act.put,b_,e_,d_]at hK⊢;refine be_ 49 (.tmp 38) rfl w.heap.size 11 e3 (#[.int .i64 a1,.int .i64 a2,.int .i64 a3]:Array Value).toList _ (k40 hX 11 rfl) Tryz.underlying49 rfl (by kernel_rfl) ?_;exact hK.out _ _ (hI.step hmono (c_ _ _) rfl rfl)
    ·have ho:=h_ ho;have e4:vs 4=.agg #[.int .i64 a1,.int .i64 a2,.int .i64 a3]:=hI.facts 4 (hdep ⟨4,.data⟩ (by rw[←ho];simp) rfl);have hbb:=hI.bel;have HC:Hid (Calls Tryz.prog 64 #[vs 4] wx fun e w'=>∃v,e=.returned v∧(fun v _=>v=.agg #[.int .i64 a1,.int .i64 a2,.int .i64 a3]) v w'∧Below wx.heap.size wx w'):=by simp only[Hid];rw[e4];exact(HAS.out _).out
     have HI:=a_ hI;have HM:=a_ hmono;clear e4 hbb hI hmono hdep;subst ho;simp only[puts,Act.put,b_,e_,d_]at hK⊢;go_simp;refine HC.out.mono ?_;rintro e wy⟨v,rfl,hg,hb⟩;exact hK.out _ _ (HI.out.step HM.out hb rfl hg)
    ·have ho:=h_ ho;subst ho;simp only[puts,Act.put,b_,e_,d_]at hK⊢;go_simp;exact hK.out _ _ (hI.step hmono (c_ _ _) rfl rfl)
    ·have ho:=h_ ho;have e6:vs 6=.pointer (some ⟨w.heap.size,14,none⟩):=hI.facts 6 (hdep ⟨6,.data⟩ (by rw[←ho];simp) rfl);have hX:=j3 hI.bel X3.out;subst ho;simp only[puts,Act.put,b_,e_,d_]at hK⊢;refine be_ 51 (.tmp 41) rfl w.heap.size 14 e6 (cfgC g).toList _ (k40 hX 14 rfl) Tryz.underlying51 rfl (by kernel_rfl) ?_;exact hK.out _ _ (hI.step hmono (c_ _ _) rfl rfl)
    ·have ho:=h_ ho;have e2:vs 2=.agg (reqC r A c A1 c1 A2 c2):=hI.facts 2 (hdep ⟨2,.data⟩ (by rw[←ho];simp) rfl);have e5:vs 5=.agg #[.int .i64 a1,.int .i64 a2,.int .i64 a3]:=hI.facts 5 (hdep ⟨5,.data⟩ (by rw[←ho];simp) rfl);have e7:vs 7=.agg (cfgC g):=hI.facts 7 (hdep ⟨7,.data⟩ (by rw[←ho];simp) rfl);have hbb:=hI.bel;have HC:Hid (Calls Tryz.prog 63 #[vs 2,vs 5,vs 7] wx fun e w'=>∃v,e=.returned v∧(fun v w'=>∃b2,v=.pointer (some ⟨b2,0,none⟩)∧w3.heap.size≤b2∧SexAt r g [b2,b] w' b2 (newS g a1 a2 a3)) v w'∧Below wx.heap.size wx w'):=by simp only[Hid];rw[e2,e5,e7];exact(HNX.out _ hbb).out
     have HI:=a_ hI;have HM:=a_ hmono;clear e2 e5 e7 hbb hI hmono hdep;subst ho;simp only[puts,Act.put,b_,e_,d_]at hK⊢;go_simp;refine HC.out.mono ?_;rintro e wy⟨v,rfl,hg,hb⟩;exact hK.out _ _ (HI.out.step HM.out hb rfl hg)
    ·omega
   intro li vs w4 hall hI;have e0:vs 0=.pointer (some ⟨b,0,none⟩):=hI.facts 0 (hall 0 (by decide));obtain⟨b2,e8,hb2,hsx⟩:∃b2,vs 8=.pointer (some ⟨b2,0,none⟩)∧w3.heap.size≤b2∧SexAt r g [b2,b] w4 b2 (newS g a1 a2 a3):=hI.facts 8 (hall 8 (by decide));have HBO:Hid (Both r g w [b] [b2,b] w4 b b2 (newS g a1 a2 a3) (newS g a1 a2 a3)):=Both.start HSB3.out (ag_ HB0.out.size HLB.out) HB3.out hsx hb2 hI.bel;clear hall hI hb2 hsx;simp only[puts,Act.put,b_,e_,d_,bH_,bW_];rw[e0,e8];generalize vs 1=y1;generalize vs 2=y2;generalize vs 3=y3;generalize vs 4=y4;generalize vs 5=y5;generalize vs 6=y6;generalize vs 7=y7;clear e0 e8;go_wp2_with fail;refine u_ (by simp[results,Tryz.results24,go_sem];try rfl) rfl ?_;exact⟨fun h=>(by rw[HV.out]at h;cases h),fun _=>⟨b,b2,rfl,HBO.out⟩⟩
end Go.Proofs.YtbphndihjdiiiaaGreatDoor
