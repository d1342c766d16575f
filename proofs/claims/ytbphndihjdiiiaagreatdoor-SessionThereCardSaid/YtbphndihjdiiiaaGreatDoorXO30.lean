/- Plain: how a session goes on, what its fence tells, and what is told of its .. -/
import Derived.Test.YtbphndihjdiiiaaGreatDoorXO24
import Derived.Test.YtbphndihjdiiiaaGreatDoorXO19
import Derived.Test.YtbphndihjdiiiaaGreatDoorXO18
import Derived.Test.YtbphndihjdiiiaaGreatDoorXF0
import Derived.BigRegion
set_option maxHeartbeats 16000000
set_option maxRecDepth 100000
set_option linter.all false
namespace Go.Proofs.YtbphndihjdiiiaaGreatDoor
open Go.RowKit
def SesL.nextS(s:SesL)(H:List (Int×Int))(cs:Int):Option (w17×SesL):=if s.st=2 then(w43 H cs s.lf).map fun x=>(x.1,if x.2=[]then{s with st:=3,en:=0,lf:=[],told:=true}else{s with lf:=x.2,told:=true})else none
def SesL.sealS(s:SesL)(n:Int):SesL:=if s.st=2 then match x36 n s.lf with|none=>s|some L=>if L=[]then{s with st:=3,en:=0,lf:=[]}else{s with lf:=L}else s
structure SesL.Ok(s:SesL):Prop where
 st:s.st=1∨s.st=2∨s.st=3
 tells:s.st=2→s.lf≠[]∧j29 s.lf
 asks:s.st=1→s.told=false∧s.cut=false
 over:s.st≠2→s.en=0
 ag:0≤s.ag∧s.ag≤100
theorem SesL.Ok.cut{s:SesL}(h:s.Ok):s.cutS.Ok:=by
 unfold SesL.cutS;split;·exact h
 ·exact⟨.inr (.inr rfl),fun h=>absurd h (by simp),fun h=>absurd h (by simp),fun _=>rfl,h.ag⟩
theorem SesL.Ok.fail{s:SesL}(h:s.Ok)(h1:s.st=1):s.failS.Ok:=⟨.inr (.inr rfl),fun h=>absurd h (by simp[SesL.failS]),fun h=>absurd h (by simp[SesL.failS]),fun _=>h.over (by omega),h.ag⟩
theorem SesL.Ok.meet{s:SesL}(h:s.Ok)(id:Int){ps:List w17}(hb:j29 ps):(s.meetS id ps).Ok:=by
 unfold SesL.meetS;split;·exact⟨.inr (.inr rfl),fun h=>absurd h (by simp),fun h=>absurd h (by simp),fun _=>rfl,h.ag⟩
 ·next hne=>exact⟨.inr (.inl rfl),fun _=>⟨hne,hb⟩,fun h=>absurd h (by simp),fun h=>absurd rfl h,h.ag⟩
theorem SesL.Ok.next{s s':SesL}{H:List (Int×Int)}{cs:Int}{p:w17}(h:s.Ok)(hc:Canon H)(hcs:1≤cs)(hn:s.nextS H cs=some (p,s')):s'.Ok∧k58 p:=by
 unfold SesL.nextS at hn;split at hn;·
  next h2=>
   obtain⟨⟨q,L⟩,hq,he⟩:=Option.map_eq_some_iff.1 hn;obtain⟨h3,h4⟩:=j126 hc hcs (h.tells h2).2 hq;simp only[Prod.mk.injEq]at he;obtain⟨rfl,rfl⟩:=he;refine⟨?_,h4⟩;split;·exact⟨.inr (.inr rfl),fun h=>absurd h (by simp),fun h=>absurd h (by simp),fun _=>rfl,h.ag⟩
   ·next hne=>exact⟨.inr (.inl h2),fun _=>⟨hne,h3⟩,fun h1=>absurd (h2.symm.trans h1) (by decide),fun h1=>absurd h2 h1,h.ag⟩
 ·cases hn
theorem j98{n:Int}:∀{L L':List w17},j29 L→x36 n L=some L'→j29 L'
 |[],_,_,h=>by cases h
 |[p],L',hb,h=>by
  simp only[x36]at h;split at h;·
   next hc=>
    obtain⟨h1,h2,h3,h4⟩:=hc;injection h with h;rw[←h];split;·trivial
    ·next hne=>
      obtain⟨hp,_,_⟩:=hb;have hpe:p.1=[]:=by unfold j40 at h1;simp only[Bool.and_eq_true,List.isEmpty_iff]at h1;exact h1.1
      rcases hp with⟨a1,_⟩|⟨_,a2,a3⟩;·exact absurd hpe a1
      ·obtain⟨o1,o2,o3⟩:=(j19 p.2).1 a2;exact⟨.inr ⟨rfl,(j19 _).2 ⟨o1,h4,by simp only;omega⟩,by simp only;omega⟩,fun h=>absurd rfl h,trivial⟩
  ·cases h
 |p::q::r,L',hb,h=>by rw[x36]at h;obtain⟨L2,h2,rfl⟩:=Option.map_eq_some_iff.1 h;obtain⟨hp,ho,hr⟩:=hb;exact⟨hp,fun _=>ho (by simp),j98 hr h2⟩
theorem SesL.Ok.seal{s:SesL}(h:s.Ok)(n:Int):(s.sealS n).Ok:=by
 unfold SesL.sealS;split;·
  next h2=>
   split;·exact h
   ·next L hL=>
     have hb:=j98 (h.tells h2).2 hL;split;·exact⟨.inr (.inr rfl),fun h=>absurd h (by simp),fun h=>absurd h (by simp),fun _=>rfl,h.ag⟩
     ·next hne=>exact⟨.inr (.inl h2),fun _=>⟨hne,hb⟩,fun h1=>absurd (h2.symm.trans h1) (by decide),fun h1=>absurd h2 h1,h.ag⟩
 ·exact h
theorem SesL.Ok.anew{s:SesL}(h:s.Ok)(a1 a2 a3:Int)(hm:s.mayAnew)(hcut:s.cut=false):(s.anewS a1 a2 a3).Ok:=by obtain⟨h1,h2,h3⟩:=hm;exact⟨.inl rfl,fun h=>absurd h (by simp[SesL.anewS]),fun _=>⟨h2,hcut⟩,fun _=>rfl,by have:=h.ag;simp only[SesL.anewS];omega⟩
theorem j103{C:List (Int×Int)}(hc:Canon C){x:Int×Int}(ho:okS x=true)(h:∀j,x.1≤j→j<x.2→inB C j=true):k32 C x=true:=by
 rw[←x134 hc x,ho,Bool.true_and,decide_eq_true_eq];have hcc:Canon (ofOp [x] C 3):=(y58 [x] C 3).1;cases hl:ofOp [x] C 3 with
  |nil=>rfl
  |cons y r=>
   exfalso;rw[hl]at hcc;have hy:=hcc.head;have hin:inB (ofOp [x] C 3) y.1=true:=by rw[hl,j34,hcc.in_cons];exact .inl (by omega)
   rw[k157]at hin;have h2:inB [x] y.1=true∧inB C y.1=false:=by cases hb:inB [x] y.1<;>cases hb2:inB C y.1<;>rw[hb,hb2]at hin<;>revert hin<;>decide
   obtain⟨z,hz,_,h3,h4⟩:=(j34 _ _).1 h2.1;rw[List.mem_singleton]at hz;subst hz;rw[h y.1 h3 h4]at h2;exact absurd h2.2 (by decide)
theorem v136{H:List (Int×Int)}(hc:Canon H){cs:Int}(hcs:1≤cs){L L':List w17}{p:w17}(hL:j29 L)(h:w43 H cs L=some (p,L')):(p.1=[]→k32 H p.2=true∧k32 (cano (q25 L)) p.2=true∧p.2.2-p.2.1≤cs∧p.2.1<p.2.2)∧(p.1.length:Int)≤cs:=by
 cases L with
  |nil=>cases h
  |cons q r=>
   obtain⟨h1,h2,h3⟩:=hL;change y43 H cs q r=some (p,L')at h;unfold y43 at h;rcases h1 with⟨a1,a2⟩|⟨a1,a2,a3⟩;·
    rw[if_neg a1]at h;injection h with h;injection h with h4 h5;have hlen:(q.1.take cs.toNat).length=min cs.toNat q.1.length:=List.length_take;rw[←h4];simp only;have hne:q.1.take cs.toNat≠[]:=fun e=>by
     rcases List.take_eq_nil_iff.1 e with e|e;·omega
     ·exact a1 e
    exact⟨fun e=>absurd e hne,by rw[hlen];omega⟩
   ·rw[if_pos a1]at h;have hT:=j87 hc hcs a3;obtain⟨o1,o2,o3⟩:=(j19 q.2).1 a2;split at h;·cases h
    ·next hne=>injection h with h;injection h with h4 h5;have hlo:=hT.lo;have hhi:=hT.hi;have hm:=hT.most;rw[←h4];simp only;have hok:okS (q.2.1,toN H cs q.2.1 q.2.2)=true:=(j19 _).2 ⟨o1,hlo,by simp only;omega⟩;refine⟨fun _=>⟨j103 hc hok hT.there,j103 (j31 _) hok fun j h6 h7=>?_,by omega,by omega⟩,by simp;omega⟩;rw[j34,q129];refine⟨q.2,?_,a2,h6,by simp only at h7;omega⟩;unfold q25;rw[a1];simp
structure SesL.Forth(s s':SesL)(anew:Bool):Prop where
 over:s.st=3→s'=s
 forth:anew=false→s.st≤s'.st
theorem SesL.Forth.refl(s:SesL)(a:Bool):s.Forth s a:=⟨fun _=>rfl,fun _=>Int.le_refl _⟩
theorem q149(s:SesL)(hs:s.Ok)(a:Bool):s.Forth s.cutS a:=by
 unfold SesL.cutS;split;·exact .refl _ _
 ·next h=>exact⟨fun h2=>absurd h2 h,fun _=>by have:=hs.st;simp only;omega⟩
theorem k136(s:SesL)(h1:s.st=1)(a:Bool):s.Forth s.failS a:=⟨fun h=>by omega,fun _=>by simp only[SesL.failS];omega⟩
theorem x136(s:SesL)(h1:s.st=1)(id:Int)(ps:List w17)(a:Bool):s.Forth (s.meetS id ps) a:=⟨fun h=>by omega,fun _=>by unfold SesL.meetS;split<;>(simp only;omega)⟩
theorem y136(s:SesL)(n:Int)(a:Bool):s.Forth (s.sealS n) a:=by
 unfold SesL.sealS;split;·
  next h=>
   split;·exact .refl _ _
   ·split;·exact⟨fun h2=>by omega,fun _=>by simp only;omega⟩
    ·exact⟨fun h2=>by omega,fun _=>by simp only;omega⟩
 ·exact .refl _ _
theorem w136(s s':SesL)(H:List (Int×Int))(cs:Int)(p:w17)(h:s.nextS H cs=some (p,s'))(a:Bool):s.Forth s' a:=by
 unfold SesL.nextS at h;split at h;·
  next h2=>
   obtain⟨⟨q,L⟩,_,he⟩:=Option.map_eq_some_iff.1 h;simp only[Prod.mk.injEq]at he;rw[←he.2];split;·exact⟨fun h3=>by omega,fun _=>by simp only;omega⟩
   ·exact⟨fun h3=>by omega,fun _=>by simp only;omega⟩
 ·cases h
theorem z137(s:SesL)(a1 a2 a3:Int)(h:s.mayAnew):s.Forth (s.anewS a1 a2 a3) true:=⟨fun h2=>by have:=h.1;omega,fun h=>by cases h⟩
structure Both(r:ReqC)(g:CfgL)(w0:World)(S D:List Nat)(w:World)(b b2:Nat)(s x:SesL):Prop where
 p:SesAt r g S w b s
 d:SexAt r g D w b2 x
 sub:∀k∈S,k∈D
 ne:b2∉S
 low:∀k∈D,w0.heap.size≤k
 bel:Below w0.heap.size w0 w
section
variable{r:ReqC}{g:CfgL}{w0:World}{S S' D:List Nat}{w w':World}{b b2:Nat}{s s' x x':SesL}
theorem Both.step(h:Both r g w0 S D w b b2 s x)(h1:SesAt r g S' w' b s')(h2:∀k∈S',k∈S∨w.heap.size≤k)(hm:Mut S w w'):Both r g w0 S' (D++S') w' b b2 s' x:=by
 have hlow:∀k∈D++S',w0.heap.size≤k:=fun k hk=>by
  rcases List.mem_append.1 hk with hk|hk;·exact h.low k hk
  ·rcases h2 k hk with h3|h3;·exact h.low k (h.sub k h3)
   ·have:=h.bel.size;omega
 have hne:b2∉S':=fun hin=>by
  rcases h2 _ hin with h3|h3;·exact h.ne h3
  ·have:=h.d.lt _ h.d.in_;omega
 refine⟨h1,h.d.mut hm h.sub h.ne (List.mem_append.2 (.inl h.d.in_)) (fun k hk=>?_) (fun k hk=>?_),fun k hk=>List.mem_append.2 (.inr hk),hne,hlow,?_⟩;·
  rcases List.mem_append.1 hk with hk|hk;·exact Nat.lt_of_lt_of_le (h.d.lt k hk) hm.size
  ·exact h1.lt k hk
 ·rcases List.mem_append.1 hk with hk|hk;·exact .inl hk
  ·exact(h2 k hk).imp_left (h.sub k)
 ·exact h.bel.trans (hm.below (fun k hk=>h.low k (h.sub k hk)) h.bel.size)
theorem Both.post(h:Both r g w0 S D w b b2 s x)(hp:k35 r g S b s' w w'):∃S' D',Both r g w0 S' D' w' b b2 s' x:=by obtain⟨S',h1,h2,_,hm⟩:=hp;exact⟨S',_,h.step h1 h2 hm⟩
theorem Both.doc(h:Both r g w0 S D w b b2 s x)(h1:SexAt r g D w' b2 x')(hm:Mut [b2] w w'):Both r g w0 S D w' b b2 s x':=by obtain⟨A,c,A1,c1,A2,c2,B,d,n,hk,_,_⟩:=h.d.blk;exact⟨h.p.mut1 hk hm,h1,h.sub,h.ne,h.low,h.bel.trans (hm.below (fun k hk=>by rw[List.mem_singleton]at hk;rw[hk];exact h.low _ h.d.in_) h.bel.size)⟩
theorem Both.below(h:Both r g w0 S D w b b2 s x)(hb:Below w.heap.size w w'):Both r g w0 S D w' b b2 s x:=⟨h.p.alloc hb,h.d.alloc hb,h.sub,h.ne,h.low,q12 hb h.bel⟩
theorem Both.start{a1 a2 a3:Int}{w1:World}(h1:SesAt r g [b] w b (newS g a1 a2 a3))(hb1:w0.heap.size≤b)(hb:Below w0.heap.size w0 w)(h2:SexAt r g [b2,b] w1 b2 (newS g a1 a2 a3))(hb2:w.heap.size≤b2)(hw:Below w.heap.size w w1):Both r g w0 [b] [b2,b] w1 b b2 (newS g a1 a2 a3) (newS g a1 a2 a3):=by have hlt:=h1.lt b (by simp);have hsz:=hb.size;refine⟨h1.alloc hw,h2,by simp,by simp;omega,?_,q12 hw hb⟩;intro k hk;simp only[List.mem_cons,List.not_mem_nil,or_false]at hk;rcases hk with rfl|rfl<;>omega
end
structure OpX where
 kind:Int
 id:Int
 ob:List UInt8
 m:MetaL
 KA:Option Addr
 kc:Nat
 x1:Int
 x2:Int
 x3:Int
 tu:Bool
 a1:Int
 a2:Int
 a3:Int
 n:Int
 HA:Option Addr
 hc:Nat
 H:List (Int×Int)
 FA:Option Addr
 fc:Nat
 F:List (Int×Int)
 tr:Bool
 fa:Bool
 jo:Bool
instance:Inhabited OpX:=⟨⟨0,0,[],⟨[],false,0,0,0,0,0,0,[],[],false⟩,none,0,0,0,0,false,0,0,0,0,none,0,[],none,0,[],false,false,false⟩⟩
def w19(o:OpX):List Value:=[.int .u8 o.kind,.int .i64 o.id,.string ⟨o.ob.toArray⟩,.string ⟨o.m.tag.toArray⟩,.bool o.m.weak,.int .i64 o.m.mo,.int .i64 o.m.len,.int .i64 o.m.hv,.int .i64 o.m.fresh,.int .i64 o.m.wh,.int .i64 o.m.er,.slice o.KA o.m.keys.length o.kc,.string ⟨o.m.ten.toArray⟩,.bool o.m.keep,.int .i64 o.x1,.int .i64 o.x2,.int .i64 o.x3,.bool o.tu,.int .i64 o.a1,.int .i64 o.a2,.int .i64 o.a3,.int .i64 o.n,.slice o.HA o.H.length o.hc,.slice o.FA o.F.length o.fc,.bool o.tr,.bool o.fa,.bool o.jo]
structure OpAt(w:World)(o:OpX):Prop where
 k:SpG encT 1 w o.KA o.kc o.m.keys
 h:Sp w o.HA o.hc o.H
 f:Sp w o.FA o.fc o.F
 kind:0≤o.kind∧o.kind≤255
 n:-9223372036854775808≤o.n∧o.n≤9223372036854775807
 hl:o.H.length≤9223372036854775807
 fl:o.F.length≤9223372036854775807
 kl:o.m.keys.length≤9223372036854775807
theorem OpAt.below{w w':World}{o:OpX}(h:OpAt w o)(hb:Below w.heap.size w w'):OpAt w' o:=⟨h.k.below hb,h.h.below hb,h.f.below hb,h.kind,h.n,h.hl,h.fl,h.kl⟩
def q43(o:OpX):Prop:=j46 o.m∧o.ob.length≤100∧o.H.length≤8∧o.F.length≤8
def k57(r:ReqC)(A:Option Addr)(c:Nat)(A1:Option Addr)(c1:Nat)(A2:Option Addr)(c2:Nat)(a1 a2 a3:Int)(g:CfgL)(LA:Option Addr)(ln lc:Nat):Array Value:=#[.bool r.hd,.string ⟨r.ob.toArray⟩,.slice A r.L.length c,.slice A1 r.k.M.length c1,.slice A2 r.k.N.length c2,.bool r.k.am,.bool r.k.an,.int .i64 r.k.si,.int .i64 r.k.un,.string ⟨r.k.rt.toArray⟩,.bool r.k.rw,.int .i64 a1,.int .i64 a2,.int .i64 a3,.int .i64 g.j0,.int .i64 g.j1,.int .i64 g.j2,.int .i64 g.cs,.int .i64 g.j4,.int .i64 g.j5,.int .i64 g.j6,.int .i64 g.j7,.int .i64 g.j8,.int .i64 g.j9,.slice LA ln lc]
theorem q137{H:List (Int×Int)}{p:w17}(h:p.1≠[]):x46 H p=some p:=by unfold x46;rw[if_neg h]
theorem j137{H:List (Int×Int)}{p:w17}{r:List w17}{cs:Int}(h:x46 H p=none):y43 H cs p r=none:=by
 unfold x46 at h;split at h;·
  next hp=>
   have hn:toN H cs p.2.1 p.2.2=p.2.1:=by
    unfold toN;split at h;·
     next x hx=>
      rw[hx];simp only;split at h;·cases h
      ·next hne=>rw[if_neg hne]
    ·next hx=>rw[hx]
   unfold y43;rw[if_pos hp,if_pos hn]
 ·cases h
theorem v137{H:List (Int×Int)}(hc:Canon H){p q:w17}{cs:Int}(hcs:1≤cs)(hp:p.1=[])(ho:k58 p)(h:x46 H p=some q):∃e,q=([],(p.2.1,e))∧p.2.1<e∧e≤p.2.2∧toN H cs p.2.1 p.2.2=min e (p.2.1+cs)∧0≤p.2.1∧p.2.2≤4611686018427387904:=by
 rcases ho with⟨h1,_⟩|⟨_,h1,h2⟩;·exact absurd hp h1
 obtain⟨o1,o2,o3⟩:=(j19 p.2).1 h1;unfold x46 at h;rw[if_pos hp]at h;unfold toN;rcases x71 hc p.2.1 with⟨hf,_⟩|⟨x,_,hf,hx,_,_,_⟩;·rw[hf]at h;cases h
 ·rw[hf]at h⊢;simp only at h⊢;split at h;·
   next hm=>injection h with h;exact⟨min p.2.2 x.2,h.symm,by omega,by omega,by rw[if_pos hm],o1,o3⟩
  ·cases h
theorem j94{H:List (Int×Int)}{cs:Int}{p:w17}{r:List w17}(h:p.1≠[]):y43 H cs p r=some ((p.1.take cs.toNat,p.2),if p.1.length≤cs.toNat then r else(p.1.drop cs.toNat,p.2)::r):=by unfold y43;rw[if_neg h]
theorem x57{H:List (Int×Int)}{cs n:Int}{p:w17}{r:List w17}(h:p.1=[])(hn:toN H cs p.2.1 p.2.2=n)(hne:n≠p.2.1):y43 H cs p r=some (([],(p.2.1,n)),if n=p.2.2 then r else([],(n,p.2.2))::r):=by unfold y43;rw[if_pos h,hn,if_neg hne]
theorem SpG.cell{α:Type}{en:α→List Value}{n:Nat}{w:World}{g off c:Nat}{L:List α}(h:SpG en n w (some ⟨g,off,none⟩) c L){k j:Nat}{v:Value}(hk:k<L.length)(hv:(en L[k])[j]?=some v):w.cell? ⟨g,off+k*n+j,none⟩=some v:=by obtain⟨b',off',e',hb',hcell⟩:=h.at' k hk;injection e' with e';injection e' with e1 e2 _;subst e1 e2;exact hcell j v hv
theorem SpG.of_nil{α:Type}{en:α→List Value}{n:Nat}{w:World}(a:Addr)(c:Nat):SpG en n w (some a) c ([]:List α):=⟨Nat.zero_le _,(fun e=>by cases e),fun k hk=>absurd hk (Nat.not_lt_zero k)⟩
def z115:Array Value:=#[.string ⟨#[]⟩,.int .i64 0,.int .i64 0]
def ptV(p:w17):Value:=.agg #[.string ⟨p.1.toArray⟩,.int .i64 p.2.1,.int .i64 p.2.2]
def j159(S:List Nat)(bb:Nat)(H:List (Int×Int))(cs:Int)(L:List w17)(w:World)(e:Ending)(w':World):Prop:=(w43 H cs L=none→e=.returned (.tuple #[ptV ([],(0,0)),.bool false])∧Below w.heap.size w w')∧(∀p L',w43 H cs L=some (p,L')→e=.returned (.tuple #[ptV p,.bool true])∧BodyAt S w' bb L'∧Mut S w w')
theorem q75(S:List Nat)(bb:Nat)(L:List w17)(w:World)(h:BodyAt S w bb L)(hok:j29 L)(HA:Option Addr)(hc:Nat)(H:List (Int×Int))(hsp:Sp w HA hc H)(hcan:Canon H)(hl:H.length≤10000)(cs:Int)(hcs:1≤cs∧cs≤4611686018427387904):Calls Tryz.prog 75 #[.pointer (some ⟨bb,0,none⟩),.agg #[.slice HA H.length hc],.int .i64 cs] w (j159 S bb H cs L w):=by
 obtain⟨A,c,n,hn,sent,hb,hrow⟩:=h.blk;have HI:=Lib.hid h.in_;have HB:=Lib.hid hb;have HS:=Lib.hid hsp;have HC:=Lib.hid hcs;have HCN:=Lib.hid hcan;have c0:w.cell? ⟨bb,0,none⟩=some (.slice A n c):=j14 hb rfl;have c1:w.cell? ⟨bb,1,none⟩=some (.int .i64 sent):=j14 hb rfl;have cz:=q14 hb;have hcs1:¬cs<1:=by omega
 cases L with
  |nil=>obtain rfl:n=0:=hn;clear h hb hsp hcs hcan hrow hok;go_enter Tryz.func75,Tryz.ntmps75;go_wp2_with fail;refine bodyPost_ret (by simp[results,Tryz.results75,go_sem];try rfl) rfl ?_;exact⟨fun _=>⟨rfl,q11 (q11 (Below.refl _ _) _) _⟩,fun p L' h=>by cases h⟩
  |cons p r=>
   obtain⟨g,off,C,hA,hg,hgS⟩:=hrow.own (by simp);have hsr:=hrow.sp;rw[hA]at hsr c0 hb;subst hn;clear c0;have c0:w.cell? ⟨bb,0,none⟩=some (.slice (some ⟨g,off,none⟩) (r.length+1) c):=j14 hb rfl;obtain⟨hp,hop,hbr⟩:=hok;obtain⟨t,x1,x2⟩:=p;obtain⟨b',off',e',hb',hcell⟩:=hsr.at' 0 (by simp);injection e' with e';injection e' with e1 e2 _;subst e1 e2;have d0:w.cell? ⟨g,off,none⟩=some (.string ⟨t.toArray⟩):=by have:=hcell 0 _ rfl;simpa using this
   have d1:w.cell? ⟨g,off+1,none⟩=some (.int .i64 x1):=by have:=hcell 1 _ rfl;simpa using this
   have d2:w.cell? ⟨g,off+2,none⟩=some (.int .i64 x2):=by have:=hcell 2 _ rfl;simpa using this
   have HSR:=Lib.hid hsr;have HG:=Lib.hid hg;have HGS:=Lib.hid hgS;have HPO:=Lib.hid hp;have HBB:Hid (w.heap[bb]?=some (.cells #[.slice (some ⟨g,off,none⟩) (r.length+1) c,.int .i64 sent] 183 (0,0))):=by have h2:=HB.out;rw[hA]at h2;exact h2
   have hgb:g≠bb:=k36 hg HBB.out (by decide);have HGB:=Lib.hid hgb;have HRD:=fun W h=>Lib.hid (z149 t x1 x2 HA hc H W h hcan hl);clear h hb hsp hcs hcan hrow hA hsr hg hgS hp hop hbr hb' hcell hgb HB;have dz:=q14 HG.out;have hr0:¬((r.length:Int)+1=0):=by omega
   obtain⟨rd,hrd⟩:∃o,x46 H (t,(x1,x2))=o:=⟨_,rfl⟩;have HRE:=Lib.hid hrd;rw[hrd]at HRD;clear hrd;go_enter Tryz.func75,Tryz.ntmps75;go_upto_region 3 with fail;obtain⟨W0,hW0,X0,X1,HB0⟩:=box2 w #[.slice HA H.length hc] 26 #[.string ⟨#[]⟩,.int .i64 0,.int .i64 0] 82;rw[hW0];clear hW0 c0 c1 d0 d1 d2 cz dz;have KB:Hid (W0.heap[bb]?=some (.cells #[.slice (some ⟨g,off,none⟩) (r.length+1) c,.int .i64 sent] 183 (0,0))):=j3 HB0.out HBB.out;have KG:=Lib.hid (j3 HB0.out HG.out);have KR:=Lib.hid (HSR.out.below HB0.out);have c0:W0.cell? ⟨bb,0,none⟩=some (.slice (some ⟨g,off,none⟩) (r.length+1) c):=j14 KB.out rfl;have hk0:(0:Int)<(r.length:Int)+1:=by omega
   have HD:Hid (W0.cell? ⟨bb,0,none⟩=some (.slice (some ⟨g,off,none⟩) (r.length+1) c)∧W0.cell? ⟨g,off,none⟩=some (.string ⟨t.toArray⟩)∧W0.cell? ⟨g,off+1,none⟩=some (.int .i64 x1)∧W0.cell? ⟨g,off+2,none⟩=some (.int .i64 x2)∧W0.cell? ⟨w.heap.size,0,none⟩=some (.slice HA H.length hc)):=⟨c0,by have:=KR.out.cell (k:=0) (j:=0) (v:=.string ⟨t.toArray⟩) (by simp) rfl;simpa using this,by have:=KR.out.cell (k:=0) (j:=1) (v:=.int .i64 x1) (by simp) rfl;simpa using this,by have:=KR.out.cell (k:=0) (j:=2) (v:=.int .i64 x2) (by simp) rfl;simpa using this,j14 X0.out rfl⟩;clear c0;rcases rd with _|⟨t',y1,y2⟩;all_goals unfold encR at HRD
   ·skip;go_cut[8,9](fun s8 s9 wx=>∃pb:Nat,s8=.pointer (some ⟨pb,0,none⟩)∧s9=.bool false∧W0.heap.size≤pb∧wx.heap[pb]?=some (.cells #[.string ⟨#[]⟩,.int .i64 0,.int .i64 0] 82 (0,0))∧Below W0.heap.size W0 wx);case first=>
     go_region_held3(fun w'=>w'.cell? ⟨bb,0,none⟩=some (.slice (some ⟨g,off,none⟩) (r.length+1) c)∧w'.cell? ⟨g,off,none⟩=some (.string ⟨t.toArray⟩)∧w'.cell? ⟨g,off+1,none⟩=some (.int .i64 x1)∧w'.cell? ⟨g,off+2,none⟩=some (.int .i64 x2)∧w'.cell? ⟨w.heap.size,0,none⟩=some (.slice HA H.length hc))(((try dsimp only);refine⟨x16 (W:=W0) ?_ HD.out.1,x16 (W:=W0) ?_ HD.out.2.1,x16 (W:=W0) ?_ HD.out.2.2.1,x16 (W:=W0) ?_ HD.out.2.2.2.1,x16 (W:=W0) ?_ HD.out.2.2.2.2⟩<;>(repeat(first|exact Below.refl _ _|exact hbw|refine q15 ?_ _|refine x15 ?_|refine q11 ?_ _|refine w14 ?_ (by first|exact Nat.le_refl _|omega|(dsimp only;omega)|(simp;omega)) _))))(first
      |(go_at_call 143;refine(HRD _ (HS.out.below (by repeat(first|exact HB0.out|refine x15 ?_|refine q11 ?_ _)))).out.mono ?_;rintro e w1⟨rfl,hb1⟩;have hbw:Below W0.heap.size W0 w1:=q12 hb1 (by repeat(first|exact Below.refl _ _|refine x15 ?_|refine q11 ?_ _));have ZB:Hid (w1.heap[W0.heap.size]?=some (.cells z115 82 (0,0))):=j3 hb1 (j17 (w:=W0.drew) rfl);have z0:w1.cell? ⟨W0.heap.size,0,none⟩=some (.string ⟨#[]⟩):=j14 ZB.out rfl;have z1:w1.cell? ⟨W0.heap.size,1,none⟩=some (.int .i64 0):=j14 ZB.out rfl;have z2:w1.cell? ⟨W0.heap.size,2,none⟩=some (.int .i64 0):=j14 ZB.out rfl;have zf0:=q13 (i:=0) ZB.out;have zf1:=q13 (i:=1) ZB.out;have zf2:=q13 (i:=2) ZB.out;have zz:=q14 ZB.out;clear hb1)
      |(go_at_call 143;refine(HRD _ (HS.out.below (by repeat(first|exact HB0.out|refine x15 ?_|refine q11 ?_ _)))).out.mono ?_;rintro e w1⟨rfl,hb1⟩;have hbw:Below W0.heap.size W0 w1:=q12 hb1 (by repeat(first|exact Below.refl _ _|refine x15 ?_|refine q11 ?_ _));clear hb1));all_goals go_wp2_with fail
     all_goals go_meet
     all_goals first|exact⟨_,rfl,rfl,hbw.size,j17 rfl,q11 hbw _⟩|exact⟨_,rfl,rfl,Nat.le_refl _,j15 (j15 (j15 ZB.out)),w14 (w14 (w14 hbw (Nat.le_refl _) _) (Nat.le_refl _) _) (Nat.le_refl _) _⟩
    case rest=>
     obtain⟨pb,rfl,rfl,hpb,hpk,hbx⟩:=hcut;have HPB:=Lib.hid hpk;have KPB:=Lib.hid hpb;have HB2:=Lib.hid hbx;clear hpb hpk hbx;have HV:Hid (w43 H cs ((t,(x1,x2))::r)=none):=j137 HRE.out;have Z1:Hid (wc.heap[w.heap.size+1]?=some (.cells #[.string ⟨#[]⟩,.int .i64 0,.int .i64 0] 82 (0,0))):=j3 HB2.out X1.out;have z0:=bc 0 Z1.out rfl;have z1:=bc 1 Z1.out rfl;have z2:=bc 2 Z1.out rfl;have zf0:=q13 (i:=0) Z1.out;have zf1:=q13 (i:=1) Z1.out;have zf2:=q13 (i:=2) Z1.out;have zz:=q14 Z1.out;go_wp2_with fail;obtain⟨W4,hW4⟩:∃W,((wc.setCell ⟨w.heap.size+1,0,none⟩ (.string ⟨#[]⟩)).setCell ⟨w.heap.size+1,1,none⟩ (.int .i64 0)).setCell ⟨w.heap.size+1,2,none⟩ (.int .i64 0)=W:=⟨_,rfl⟩;have X4:Hid (W4.heap[w.heap.size+1]?=some (.cells #[.string ⟨#[]⟩,.int .i64 0,.int .i64 0] 82 (0,0))):=by simp only[Hid];rw[←hW4];exact j15 (j15 (j15 Z1.out))
     have HB4:Hid (Below w.heap.size w W4):=by simp only[Hid];rw[←hW4];exact w14 (w14 (w14 (q12 HB2.out HB0.out) (Nat.le_succ _) _) (Nat.le_succ _) _) (Nat.le_succ _) _
     rw[hW4];clear hW4 z0 z1 z2 zz zf0 zf1 zf2;have z0:=bc 0 X4.out rfl;have z1:=bc 1 X4.out rfl;have z2:=bc 2 X4.out rfl;refine bodyPost_ret (by simp[results,Tryz.results75,go_sem,z0,z1,z2];try rfl) rfl ?_;exact⟨fun _=>⟨rfl,HB4.out⟩,fun p L' h=>by rw[HV.out]at h;cases h⟩
   ·skip;go_cut[8,9](fun s8 s9 wx=>∃pb:Nat,s8=.pointer (some ⟨pb,0,none⟩)∧s9=.bool true∧W0.heap.size≤pb∧wx.heap[pb]?=some (.cells #[.string ⟨t'.toArray⟩,.int .i64 y1,.int .i64 y2] 82 (0,0))∧Below W0.heap.size W0 wx);case first=>
     go_region_held3(fun w'=>w'.cell? ⟨bb,0,none⟩=some (.slice (some ⟨g,off,none⟩) (r.length+1) c)∧w'.cell? ⟨g,off,none⟩=some (.string ⟨t.toArray⟩)∧w'.cell? ⟨g,off+1,none⟩=some (.int .i64 x1)∧w'.cell? ⟨g,off+2,none⟩=some (.int .i64 x2)∧w'.cell? ⟨w.heap.size,0,none⟩=some (.slice HA H.length hc))(((try dsimp only);refine⟨x16 (W:=W0) ?_ HD.out.1,x16 (W:=W0) ?_ HD.out.2.1,x16 (W:=W0) ?_ HD.out.2.2.1,x16 (W:=W0) ?_ HD.out.2.2.2.1,x16 (W:=W0) ?_ HD.out.2.2.2.2⟩<;>(repeat(first|exact Below.refl _ _|exact hbw|refine q15 ?_ _|refine x15 ?_|refine q11 ?_ _|refine w14 ?_ (by first|exact Nat.le_refl _|omega|(dsimp only;omega)|(simp;omega)) _))))(first
      |(go_at_call 143;refine(HRD _ (HS.out.below (by repeat(first|exact HB0.out|refine x15 ?_|refine q11 ?_ _)))).out.mono ?_;rintro e w1⟨rfl,hb1⟩;have hbw:Below W0.heap.size W0 w1:=q12 hb1 (by repeat(first|exact Below.refl _ _|refine x15 ?_|refine q11 ?_ _));have ZB:Hid (w1.heap[W0.heap.size]?=some (.cells z115 82 (0,0))):=j3 hb1 (j17 (w:=W0.drew) rfl);have z0:w1.cell? ⟨W0.heap.size,0,none⟩=some (.string ⟨#[]⟩):=j14 ZB.out rfl;have z1:w1.cell? ⟨W0.heap.size,1,none⟩=some (.int .i64 0):=j14 ZB.out rfl;have z2:w1.cell? ⟨W0.heap.size,2,none⟩=some (.int .i64 0):=j14 ZB.out rfl;have zf0:=q13 (i:=0) ZB.out;have zf1:=q13 (i:=1) ZB.out;have zf2:=q13 (i:=2) ZB.out;have zz:=q14 ZB.out;clear hb1)
      |(go_at_call 143;refine(HRD _ (HS.out.below (by repeat(first|exact HB0.out|refine x15 ?_|refine q11 ?_ _)))).out.mono ?_;rintro e w1⟨rfl,hb1⟩;have hbw:Below W0.heap.size W0 w1:=q12 hb1 (by repeat(first|exact Below.refl _ _|refine x15 ?_|refine q11 ?_ _));clear hb1));all_goals go_wp2_with fail
     all_goals go_meet
     all_goals first|exact⟨_,rfl,rfl,hbw.size,j17 rfl,q11 hbw _⟩|exact⟨_,rfl,rfl,Nat.le_refl _,j15 (j15 (j15 ZB.out)),w14 (w14 (w14 hbw (Nat.le_refl _) _) (Nat.le_refl _) _) (Nat.le_refl _) _⟩
    case rest=>
     obtain⟨pb,rfl,rfl,hpb,hpk,hbx⟩:=hcut;have HPB:=Lib.hid hpk;have KPB:=Lib.hid hpb;have HB2:=Lib.hid hbx;clear hpb hpk hbx;have LB:Hid (wc.heap[bb]?=some (.cells #[.slice (some ⟨g,off,none⟩) (r.length+1) c,.int .i64 sent] 183 (0,0))):=j3 HB2.out KB.out;have LG:=Lib.hid (j3 HB2.out KG.out);have LR:=Lib.hid (KR.out.below HB2.out);have L1:Hid (wc.heap[w.heap.size+1]?=some (.cells #[.string ⟨#[]⟩,.int .i64 0,.int .i64 0] 82 (0,0))):=j3 HB2.out X1.out;have HL:=Lib.hid (q12 HB2.out HB0.out);have HPG:Hid (g<pb):=by have h1:=q14 KG.out;have h2:=KPB.out;simp only[Hid];omega
     have HPB1:Hid (bb<pb):=by have h1:=q14 KB.out;have h2:=KPB.out;simp only[Hid];omega
     have HP1:Hid (w.heap.size+1<pb):=by have h1:=q14 X1.out;have h2:=KPB.out;simp only[Hid];omega
     have HGW:Hid (g<w.heap.size):=q14 HG.out;have HBW:Hid (bb<w.heap.size):=q14 HBB.out;clear HRD HS HD KB KG KR X0 X1 HB0 HB2 HSR HG HBB KPB;have c0:wc.cell? ⟨bb,0,none⟩=some (.slice (some ⟨g,off,none⟩) (r.length+1) c):=j14 LB.out rfl;have p0:=bc 0 HPB.out rfl;have p1:=bc 1 HPB.out rfl;have p2:=bc 2 HPB.out rfl;have pz:=q14 HPB.out;by_cases ht:t=[];rotate_left;·
      have hrd:=HRE.out.symm.trans (q137 (H:=H) (p:=(t,(x1,x2))) ht);injection hrd with hrd;injection hrd with e1 e2;injection e2 with e2 e3;subst e1 e2 e3;have htx:=HPO.out.resolve_right (fun h=>ht h.1);have hx1:y1=0:=congrArg Prod.fst htx.2;have hx2:y2=0:=congrArg Prod.snd htx.2;subst hx1 hx2;have hte:t'.isEmpty=false:=List.isEmpty_eq_false_iff.2 ht;obtain⟨N,hN⟩:∃N:Nat,min t'.length cs.toNat=N:=⟨_,rfl⟩;have hcs:=HC.out;have htl:0<t'.length:=List.length_pos_iff.2 ht;have hmin:min (t'.length:Int) cs=(N:Int):=by omega
      have hN0:(0:Int)≤(N:Int):=by omega
      have hN1:(N:Int)≤(t'.length:Int):=by omega
      obtain⟨u,hu⟩:∃u,t'.take N=u:=⟨_,rfl⟩;obtain⟨v,hv⟩:∃v,t'.drop N=v:=⟨_,rfl⟩;have HV:Hid (w43 H cs ((t',(0,0))::r)=some ((u,(0,0)),if v=[]then r else(v,(0,0))::r)):=by
       simp only[Hid];refine(j94 (H:=H) (cs:=cs) (p:=(t',(0,0))) (r:=r) ht).trans ?_;simp only;have hc1:t'.take cs.toNat=u:=by rw[←hu,List.take_eq_take_iff];omega
       rw[hc1];by_cases hle:t'.length≤cs.toNat;·rw[if_pos hle,if_pos (by rw[←hv];exact List.drop_eq_nil_iff.2 (by omega))]
       ·have hne:cs.toNat=N:=by omega
        rw[if_neg hle,if_neg (by rw[←hv];intro e;have:=List.drop_eq_nil_iff.1 e;omega),hne,hv]
      have ex1:(⟨t'.toArray⟩:ByteArray).extract 0 N=⟨u.toArray⟩:=by rw[y62,←hu];simp
      have ex2:(⟨t'.toArray⟩:ByteArray).extract N t'.length=⟨v.toArray⟩:=by rw[y62,←hv,List.take_of_length_le (by simp)]
      have HCL:Hid (r.length+1≤c):=by have:=LR.out.le;simp only[List.length_cons]at this;exact this
      clear ht htx hu hv hN htl;go_upto_region 9 with fail;have d0:wc.cell? ⟨g,off,none⟩=some (.string ⟨t'.toArray⟩):=by have:=LR.out.cell (k:=0) (j:=0) (v:=.string ⟨t'.toArray⟩) (by simp) rfl;simpa using this
      have df0:wc.frozen? ⟨g,off,none⟩=false:=q13 LG.out;have pf0:=q13 (i:=0) HPB.out;have dz:=q14 LG.out;have hgp:¬g=pb:=by have:=HPG.out;omega
      have hpg:¬pb=g:=by have:=HPG.out;omega
      go_region;obtain⟨W5,hW5⟩:∃W,((wc.setCell ⟨pb,0,none⟩ (.string ⟨u.toArray⟩)).setCell ⟨g,off,none⟩ (.string ⟨v.toArray⟩)).drew=W:=⟨_,rfl⟩;have PB5:Hid (W5.heap[pb]?=some (.cells #[.string ⟨u.toArray⟩,.int .i64 0,.int .i64 0] 82 (0,0))):=by simp only[Hid];rw[←hW5];exact q18 (w15 hpg (j15 HPB.out))
      have LG5:Hid (W5.heap[g]?=some (.cells (C.setIfInBounds off (.string ⟨v.toArray⟩)) 82 (0,0))):=by simp only[Hid];rw[←hW5];exact q18 (j15 (w15 hgp LG.out))
      have LRp:SpG j18 3 (wc.setCell ⟨pb,0,none⟩ (.string ⟨u.toArray⟩)) (some ⟨g,off,none⟩) c ((t',(0,0))::r):=LR.out.mut (S:=[pb]) (fun _ a ha=>by injection ha with ha;rw[←ha];simpa using hgp) (Mut.set (p:=⟨pb,0,none⟩) (by simp) _ (Mut.refl _ _));have LR5:Hid (SpG j18 3 W5 (some ⟨g,off,none⟩) c ((v,(0,0))::r)):=by simp only[Hid];rw[←hW5];exact(w158 (w15 hgp LG.out) LRp).drew
      have hbp:bb≠pb:=by have:=HPB1.out;omega
      have hbg:bb≠g:=fun e=>HGB.out e.symm;have LB5:Hid (W5.heap[bb]?=some (.cells #[.slice (some ⟨g,off,none⟩) (r.length+1) c,.int .i64 sent] 183 (0,0))):=by simp only[Hid];rw[←hW5];exact q18 (w15 hbg (w15 hbp LB.out))
      have h1p:w.heap.size+1≠pb:=by have:=HP1.out;omega
      have h1g:w.heap.size+1≠g:=by have:=HGW.out;omega
      have L15:Hid (W5.heap[w.heap.size+1]?=some (.cells #[.string ⟨#[]⟩,.int .i64 0,.int .i64 0] 82 (0,0))):=by simp only[Hid];rw[←hW5];exact q18 (w15 h1g (w15 h1p L1.out))
      have M5:Hid (Mut [g,pb] wc W5):=by simp only[Hid];rw[←hW5];exact Mut.drew (Mut.set (p:=⟨g,off,none⟩) (by simp) _ (Mut.set (p:=⟨pb,0,none⟩) (by simp) _ (Mut.refl _ _)))
      rw[hW5];clear hW5 LRp c0 p0 p1 p2 pz d0 df0 pf0 dz hgp hpg hbp h1p h1g HPB LG LR LB L1 ex1 ex2 hmin;have c0:W5.cell? ⟨bb,0,none⟩=some (.slice (some ⟨g,off,none⟩) (r.length+1) c):=j14 LB5.out rfl;have c1:W5.cell? ⟨bb,1,none⟩=some (.int .i64 sent):=j14 LB5.out rfl;have cf1:W5.frozen? ⟨bb,1,none⟩=false:=q13 LB5.out;have cz:=q14 LB5.out;go_upto_region 11 with fail;obtain⟨sn,hsn⟩:∃x,wrap64 (sent+(N:Int))=x:=⟨_,rfl⟩;rw[hsn];obtain⟨W6,hW6⟩:∃W,W5.setCell ⟨bb,1,none⟩ (.int .i64 sn)=W:=⟨_,rfl⟩;have hpb:pb≠bb:=by have:=HPB1.out;omega
      have hgb:g≠bb:=HGB.out;have h1b:w.heap.size+1≠bb:=by have:=HBW.out;omega
      have LB6:Hid (W6.heap[bb]?=some (.cells #[.slice (some ⟨g,off,none⟩) (r.length+1) c,.int .i64 sn] 183 (0,0))):=by simp only[Hid];rw[←hW6];exact j15 LB5.out
      have PB6:Hid (W6.heap[pb]?=some (.cells #[.string ⟨u.toArray⟩,.int .i64 0,.int .i64 0] 82 (0,0))):=by simp only[Hid];rw[←hW6];exact w15 hpb PB5.out
      have M56:Mut [bb] W5 W6:=by rw[←hW6];exact Mut.set (p:=⟨bb,1,none⟩) (by simp) _ (Mut.refl _ _)
      have LG6:=Lib.hid (M56.blk _ _ LG5.out (by simpa using hgb));have LR6:=Lib.hid (LR5.out.mut (S:=[bb]) (fun _ a ha=>by injection ha with ha;rw[←ha];simpa using hgb) M56);have L16:=Lib.hid (M56.blk _ _ L15.out (by simpa using h1b));have M6:Hid (Mut [g,pb,bb] wc W6):=(M5.out.mono (by simp)).trans (M56.mono (by simp));rw[hW6];clear hW6 M56 hsn c0 c1 cf1 cz LB5 PB5 LG5 LR5 L15 M5;have d0:W6.cell? ⟨g,off,none⟩=some (.string ⟨v.toArray⟩):=by have:=LR6.out.cell (k:=0) (j:=0) (v:=.string ⟨v.toArray⟩) (by simp) rfl;simpa using this
      have dz:=q14 LG6.out;cases hve:v.isEmpty with
       |true=>
        have HEV:Hid (v=[]):=List.isEmpty_iff.1 hve;have c0:W6.cell? ⟨bb,0,none⟩=some (.slice (some ⟨g,off,none⟩) (r.length+1) c):=j14 LB6.out rfl;have cf0:W6.frozen? ⟨bb,0,none⟩=false:=q13 LB6.out;have cz:=q14 LB6.out;have hcl:(r.length:Int)+1≤(c:Int):=by have:=HCL.out;omega
        go_upto_region 13 with fail;obtain⟨A7,hA7⟩:∃A:Option Addr,(if c=1 then some (⟨g,off,none⟩:Addr)else some ⟨g,off+3,none⟩)=A:=⟨_,rfl⟩;rw[hA7];obtain⟨W7,hW7⟩:∃W,W6.setCell ⟨bb,0,none⟩ (.slice A7 r.length (c-1))=W:=⟨_,rfl⟩;have LB7:Hid (W7.heap[bb]?=some (.cells #[.slice A7 r.length (c-1),.int .i64 sn] 183 (0,0))):=by simp only[Hid];rw[←hW7];exact j15 LB6.out
        have M67:Mut [bb] W6 W7:=by rw[←hW7];exact Mut.set (p:=⟨bb,0,none⟩) (by simp) _ (Mut.refl _ _)
        have PB7:=Lib.hid (M67.blk _ _ PB6.out (by simpa using hpb));have LG7:=Lib.hid (M67.blk _ _ LG6.out (by simpa using hgb));have LR7:=Lib.hid (LR6.out.mut (S:=[bb]) (fun _ a ha=>by injection ha with ha;rw[←ha];simpa using hgb) M67);have L17:=Lib.hid (M67.blk _ _ L16.out (by simpa using h1b));have M7:Hid (Mut [g,pb,bb] wc W7):=M6.out.trans (M67.mono (by simp));have HA7:=Lib.hid hA7;rw[hW7];clear LB6 PB6 LG6 LR6 L16 M6 d0 dz hve hW7 hA7 M67 c0 cf0 cz hcl;have z0:=bc 0 L17.out rfl;have z1:=bc 1 L17.out rfl;have z2:=bc 2 L17.out rfl;have zf0:=q13 (i:=0) L17.out;have zf1:=q13 (i:=1) L17.out;have zf2:=q13 (i:=2) L17.out;have zz:=q14 L17.out;have p0:=bc 0 PB7.out rfl;have p1:=bc 1 PB7.out rfl;have p2:=bc 2 PB7.out rfl;have pz:=q14 PB7.out;go_wp2_with fail;obtain⟨W8,hW8⟩:∃W,((W7.setCell ⟨w.heap.size+1,0,none⟩ (.string ⟨u.toArray⟩)).setCell ⟨w.heap.size+1,1,none⟩ (.int .i64 0)).setCell ⟨w.heap.size+1,2,none⟩ (.int .i64 0)=W:=⟨_,rfl⟩;have X8:Hid (W8.heap[w.heap.size+1]?=some (.cells #[.string ⟨u.toArray⟩,.int .i64 0,.int .i64 0] 82 (0,0))):=by simp only[Hid];rw[←hW8];exact j15 (j15 (j15 L17.out))
        have M8:Hid (Mut [w.heap.size+1] W7 W8):=by simp only[Hid];rw[←hW8];exact Mut.set (p:=⟨w.heap.size+1,2,none⟩) (by simp) _ (Mut.set (p:=⟨w.heap.size+1,1,none⟩) (by simp) _ (Mut.set (p:=⟨w.heap.size+1,0,none⟩) (by simp) _ (Mut.refl _ _)))
        rw[hW8];clear hW8 z0 z1 z2 zf0 zf1 zf2 zz p0 p1 p2 pz;have z0:=bc 0 X8.out rfl;have z1:=bc 1 X8.out rfl;have z2:=bc 2 X8.out rfl;refine bodyPost_ret (by simp[results,Tryz.results75,go_sem,z0,z1,z2];try rfl) rfl ?_;have hg1:g≠w.heap.size+1:=by have:=HGW.out;omega
        have hb1:bb≠w.heap.size+1:=by have:=HBW.out;omega
        have hp1:=HP1.out;have hm8:Mut [g,pb,bb,w.heap.size+1] wc W8:=(M7.out.mono (by simp)).trans (M8.out.mono (by simp));have hm:Mut S w W8:=(Mut.of_below HL.out).trans_new hm8 (fun k hk=>by
         simp only[List.mem_cons,List.not_mem_nil,or_false]at hk;rcases hk with rfl|rfl|rfl|rfl;·exact .inl HGS.out
         ·exact .inr (by omega)
         ·exact .inl HI.out
         ·exact .inr (by omega));have hbk:=M8.out.blk _ _ LB7.out (by simpa using hb1);have hgk:=M8.out.blk _ _ LG7.out (by simpa using hg1);have hrk:=LR7.out.mut (S:=[w.heap.size+1]) (fun _ a ha=>by injection ha with ha;rw[←ha];simpa using hg1) M8.out;refine⟨fun h=>(by rw[HV.out]at h;cases h),fun p L' h=>?_⟩;rw[HV.out]at h;injection h with h;injection h with h1 h2;subst h1 h2;refine⟨rfl,⟨HI.out,?_⟩,hm⟩;rw[if_pos HEV.out];refine⟨A7,c-1,_,rfl,_,hbk,?_⟩;by_cases hc1:c=1;·have hr:r=[]:=List.eq_nil_of_length_eq_zero (by have:=HCL.out;omega);have hA:=HA7.out;rw[if_pos hc1]at hA;rw[hr,←hA];exact⟨SpG.of_nil _ _,fun h=>absurd h (by simp)⟩
        ·have hA:=HA7.out;rw[if_neg hc1]at hA;rw[←hA];exact⟨q88 hrk,fun _=>⟨g,off+3,_,rfl,hgk,HGS.out⟩⟩
       |false=>
        have HEV:Hid (¬v=[]):=List.isEmpty_eq_false_iff.1 hve;go_upto_region 13 with fail;obtain⟨W7,hW7⟩:∃W,W6=W:=⟨_,rfl⟩;rw[hW7]at LB6 PB6 LG6 LR6 L16 M6⊢;have LB7:=LB6;have PB7:=PB6;have LG7:=LG6;have LR7:=LR6;have L17:=L16;have M7:=M6;clear LB6 PB6 LG6 LR6 L16 M6 d0 dz hve hW7;have z0:=bc 0 L17.out rfl;have z1:=bc 1 L17.out rfl;have z2:=bc 2 L17.out rfl;have zf0:=q13 (i:=0) L17.out;have zf1:=q13 (i:=1) L17.out;have zf2:=q13 (i:=2) L17.out;have zz:=q14 L17.out;have p0:=bc 0 PB7.out rfl;have p1:=bc 1 PB7.out rfl;have p2:=bc 2 PB7.out rfl;have pz:=q14 PB7.out;go_wp2_with fail;obtain⟨W8,hW8⟩:∃W,((W7.setCell ⟨w.heap.size+1,0,none⟩ (.string ⟨u.toArray⟩)).setCell ⟨w.heap.size+1,1,none⟩ (.int .i64 0)).setCell ⟨w.heap.size+1,2,none⟩ (.int .i64 0)=W:=⟨_,rfl⟩;have X8:Hid (W8.heap[w.heap.size+1]?=some (.cells #[.string ⟨u.toArray⟩,.int .i64 0,.int .i64 0] 82 (0,0))):=by simp only[Hid];rw[←hW8];exact j15 (j15 (j15 L17.out))
        have M8:Hid (Mut [w.heap.size+1] W7 W8):=by simp only[Hid];rw[←hW8];exact Mut.set (p:=⟨w.heap.size+1,2,none⟩) (by simp) _ (Mut.set (p:=⟨w.heap.size+1,1,none⟩) (by simp) _ (Mut.set (p:=⟨w.heap.size+1,0,none⟩) (by simp) _ (Mut.refl _ _)))
        rw[hW8];clear hW8 z0 z1 z2 zf0 zf1 zf2 zz p0 p1 p2 pz;have z0:=bc 0 X8.out rfl;have z1:=bc 1 X8.out rfl;have z2:=bc 2 X8.out rfl;refine bodyPost_ret (by simp[results,Tryz.results75,go_sem,z0,z1,z2];try rfl) rfl ?_;have hg1:g≠w.heap.size+1:=by have:=HGW.out;omega
        have hb1:bb≠w.heap.size+1:=by have:=HBW.out;omega
        have hp1:=HP1.out;have hm8:Mut [g,pb,bb,w.heap.size+1] wc W8:=(M7.out.mono (by simp)).trans (M8.out.mono (by simp));have hm:Mut S w W8:=(Mut.of_below HL.out).trans_new hm8 (fun k hk=>by
         simp only[List.mem_cons,List.not_mem_nil,or_false]at hk;rcases hk with rfl|rfl|rfl|rfl;·exact .inl HGS.out
         ·exact .inr (by omega)
         ·exact .inl HI.out
         ·exact .inr (by omega));have hbk:=M8.out.blk _ _ LB7.out (by simpa using hb1);have hgk:=M8.out.blk _ _ LG7.out (by simpa using hg1);have hrk:=LR7.out.mut (S:=[w.heap.size+1]) (fun _ a ha=>by injection ha with ha;rw[←ha];simpa using hg1) M8.out;refine⟨fun h=>(by rw[HV.out]at h;cases h),fun p L' h=>?_⟩;rw[HV.out]at h;injection h with h;injection h with h1 h2;subst h1 h2;refine⟨rfl,⟨HI.out,?_⟩,hm⟩;rw[if_neg HEV.out];exact⟨some ⟨g,off,none⟩,c,_,rfl,_,hbk,⟨hrk,fun _=>⟨g,off,_,rfl,hgk,HGS.out⟩⟩⟩
     ·subst ht;obtain⟨en,hen,he1,he2,hto,hx0,hx3⟩:=v137 HCN.out HC.out.1 (rfl:(([],(x1,x2)):w17).1=[]) HPO.out HRE.out;injection hen with e1 e2;injection e2 with e2 e3;subst e1 e2 e3;simp only at he1 he2 hto hx0 hx3;have hcs:=HC.out;obtain⟨n,hn⟩:∃n:Int,min (y2-y1) cs=n:=⟨_,rfl⟩;obtain⟨q,hq⟩:∃q:Int,y1+n=q:=⟨_,rfl⟩;have hw1:wrap64 (y2-y1)=y2-y1:=by unfold wrap64;omega
      have hw2:wrap64 (y1+n)=q:=by unfold wrap64;omega
      have HV:Hid (w43 H cs (([],(y1,x2))::r)=some (([],(y1,q)),if q=x2 then r else([],(q,x2))::r)):=x57 (p:=([],(y1,x2))) rfl (by rw[hto];omega) (by simp only;omega);have HCL:Hid (r.length+1≤c):=by have:=LR.out.le;simp only[List.length_cons]at this;exact this
      clear he1 he2 hto hx0 hx3 hq;go_upto_region 15 with fail;have pf2:=q13 (i:=2) HPB.out;have d1:wc.cell? ⟨g,off+1,none⟩=some (.int .i64 y1):=by have:=LR.out.cell (k:=0) (j:=1) (v:=.int .i64 y1) (by simp) rfl;simpa using this
      have df1:wc.frozen? ⟨g,off+1,none⟩=false:=q13 LG.out;have dz:=q14 LG.out;have hgp:¬g=pb:=by have:=HPG.out;omega
      have hpg:¬pb=g:=by have:=HPG.out;omega
      have hbp:bb≠pb:=by have:=HPB1.out;omega
      have hbg:bb≠g:=fun e=>HGB.out e.symm;have c1:wc.cell? ⟨bb,1,none⟩=some (.int .i64 sent):=j14 LB.out rfl;have cf1:wc.frozen? ⟨bb,1,none⟩=false:=q13 LB.out;have cz:=q14 LB.out;go_upto_region 18 with fail;obtain⟨sn,hsn⟩:∃x,wrap64 (sent+n)=x:=⟨_,rfl⟩;rw[hsn];obtain⟨W6,hW6⟩:∃W,((wc.setCell ⟨pb,2,none⟩ (.int .i64 q)).setCell ⟨g,off+1,none⟩ (.int .i64 q)).setCell ⟨bb,1,none⟩ (.int .i64 sn)=W:=⟨_,rfl⟩;have hpb:pb≠bb:=Ne.symm hbp;have hgb:g≠bb:=HGB.out;have h1b:w.heap.size+1≠bb:=by have:=HBW.out;omega
      have h1p:w.heap.size+1≠pb:=by have:=HP1.out;omega
      have h1g:w.heap.size+1≠g:=by have:=HGW.out;omega
      have PB6:Hid (W6.heap[pb]?=some (.cells #[.string ⟨#[]⟩,.int .i64 y1,.int .i64 q] 82 (0,0))):=by simp only[Hid];rw[←hW6];exact w15 hpb (w15 hpg (j15 HPB.out))
      have LG6:Hid (W6.heap[g]?=some (.cells (C.setIfInBounds (off+1) (.int .i64 q)) 82 (0,0))):=by simp only[Hid];rw[←hW6];exact w15 hgb (j15 (w15 hgp LG.out))
      have LRp:SpG j18 3 (wc.setCell ⟨pb,2,none⟩ (.int .i64 q)) (some ⟨g,off,none⟩) c (([],(y1,x2))::r):=LR.out.mut (S:=[pb]) (fun _ a ha=>by injection ha with ha;rw[←ha];simpa using hgp) (Mut.set (p:=⟨pb,2,none⟩) (by simp) _ (Mut.refl _ _));have LRq:=q159 (y:=q) (w15 (v:=.int .i64 q) (p:=⟨pb,2,none⟩) hgp LG.out) LRp;have LR6:Hid (SpG j18 3 W6 (some ⟨g,off,none⟩) c (([],(q,x2))::r)):=by simp only[Hid];rw[←hW6];exact LRq.mut (S:=[bb]) (fun _ a ha=>by injection ha with ha;rw[←ha];simpa using hgb) (Mut.set (p:=⟨bb,1,none⟩) (by simp) _ (Mut.refl _ _))
      have LB6:Hid (W6.heap[bb]?=some (.cells #[.slice (some ⟨g,off,none⟩) (r.length+1) c,.int .i64 sn] 183 (0,0))):=by simp only[Hid];rw[←hW6];exact j15 (w15 hbg (w15 hbp LB.out))
      have L16:Hid (W6.heap[w.heap.size+1]?=some (.cells #[.string ⟨#[]⟩,.int .i64 0,.int .i64 0] 82 (0,0))):=by simp only[Hid];rw[←hW6];exact w15 h1b (w15 h1g (w15 h1p L1.out))
      have M6:Hid (Mut [g,pb,bb] wc W6):=by simp only[Hid];rw[←hW6];exact Mut.set (p:=⟨bb,1,none⟩) (by simp) _ (Mut.set (p:=⟨g,off+1,none⟩) (by simp) _ (Mut.set (p:=⟨pb,2,none⟩) (by simp) _ (Mut.refl _ _)))
      rw[hW6];clear hW6 LRp LRq hsn c0 c1 cf1 cz LB HPB LG LR L1 p0 p1 p2 pz pf2 d1 df1 dz hgp hpg hbp hbg h1p h1g hw1 hw2;have d1:W6.cell? ⟨g,off+1,none⟩=some (.int .i64 q):=by have:=LR6.out.cell (k:=0) (j:=1) (v:=.int .i64 q) (by simp) rfl;simpa using this
      have d2:W6.cell? ⟨g,off+2,none⟩=some (.int .i64 x2):=by have:=LR6.out.cell (k:=0) (j:=2) (v:=.int .i64 x2) (by simp) rfl;simpa using this
      have dz:=q14 LG6.out;by_cases hqx:q=x2;·
       have hqe:(q==x2)=true:=by rw[beq_iff_eq];exact hqx
       have HEV:=Lib.hid hqx;clear hqx;go_quiet(fail);obtain⟨Wd,hWd⟩:∃W,W6.drewN nq=W:=⟨_,rfl⟩;have LBd:=Lib.hid (j32 (n:=nq) LB6.out);have PBd:=Lib.hid (j32 (n:=nq) PB6.out);have LGd:=Lib.hid (j32 (n:=nq) LG6.out);have LRd:=Lib.hid (LR6.out.below (q15 (Below.refl _ _) nq));have L1d:=Lib.hid (j32 (n:=nq) L16.out);have Md:=Lib.hid (M6.out.drewN nq);rw[hWd]at LBd PBd LGd LRd L1d Md⊢;clear hWd LB6 PB6 LG6 LR6 L16 M6 d1 d2 dz;have c0:Wd.cell? ⟨bb,0,none⟩=some (.slice (some ⟨g,off,none⟩) (r.length+1) c):=j14 LBd.out rfl;have cf0:Wd.frozen? ⟨bb,0,none⟩=false:=q13 LBd.out;have cz:=q14 LBd.out;have hcl:(r.length:Int)+1≤(c:Int):=by have:=HCL.out;omega
       go_upto_region 20 with fail;obtain⟨A7,hA7⟩:∃A:Option Addr,(if c=1 then some (⟨g,off,none⟩:Addr)else some ⟨g,off+3,none⟩)=A:=⟨_,rfl⟩;rw[hA7];obtain⟨W7,hW7⟩:∃W,Wd.setCell ⟨bb,0,none⟩ (.slice A7 r.length (c-1))=W:=⟨_,rfl⟩;have LB7:Hid (W7.heap[bb]?=some (.cells #[.slice A7 r.length (c-1),.int .i64 sn] 183 (0,0))):=by simp only[Hid];rw[←hW7];exact j15 LBd.out
       have M67:Mut [bb] Wd W7:=by rw[←hW7];exact Mut.set (p:=⟨bb,0,none⟩) (by simp) _ (Mut.refl _ _)
       have PB7:=Lib.hid (M67.blk _ _ PBd.out (by simpa using hpb));have LG7:=Lib.hid (M67.blk _ _ LGd.out (by simpa using hgb));have LR7:=Lib.hid (LRd.out.mut (S:=[bb]) (fun _ a ha=>by injection ha with ha;rw[←ha];simpa using hgb) M67);have L17:=Lib.hid (M67.blk _ _ L1d.out (by simpa using h1b));have M7:Hid (Mut [g,pb,bb] wc W7):=Md.out.trans (M67.mono (by simp));have HA7:=Lib.hid hA7;rw[hW7];clear LBd PBd LGd LRd L1d Md hqe hW7 hA7 M67 c0 cf0 cz hcl;have z0:=bc 0 L17.out rfl;have z1:=bc 1 L17.out rfl;have z2:=bc 2 L17.out rfl;have zf0:=q13 (i:=0) L17.out;have zf1:=q13 (i:=1) L17.out;have zf2:=q13 (i:=2) L17.out;have zz:=q14 L17.out;have p0:=bc 0 PB7.out rfl;have p1:=bc 1 PB7.out rfl;have p2:=bc 2 PB7.out rfl;have pz:=q14 PB7.out;go_wp2_with fail;obtain⟨W8,hW8⟩:∃W,((W7.setCell ⟨w.heap.size+1,0,none⟩ (.string ⟨#[]⟩)).setCell ⟨w.heap.size+1,1,none⟩ (.int .i64 y1)).setCell ⟨w.heap.size+1,2,none⟩ (.int .i64 q)=W:=⟨_,rfl⟩;have X8:Hid (W8.heap[w.heap.size+1]?=some (.cells #[.string ⟨#[]⟩,.int .i64 y1,.int .i64 q] 82 (0,0))):=by simp only[Hid];rw[←hW8];exact j15 (j15 (j15 L17.out))
       have M8:Hid (Mut [w.heap.size+1] W7 W8):=by simp only[Hid];rw[←hW8];exact Mut.set (p:=⟨w.heap.size+1,2,none⟩) (by simp) _ (Mut.set (p:=⟨w.heap.size+1,1,none⟩) (by simp) _ (Mut.set (p:=⟨w.heap.size+1,0,none⟩) (by simp) _ (Mut.refl _ _)))
       rw[hW8];clear hW8 z0 z1 z2 zf0 zf1 zf2 zz p0 p1 p2 pz;have z0:=bc 0 X8.out rfl;have z1:=bc 1 X8.out rfl;have z2:=bc 2 X8.out rfl;refine bodyPost_ret (by simp[results,Tryz.results75,go_sem,z0,z1,z2];try rfl) rfl ?_;have hg1:g≠w.heap.size+1:=by have:=HGW.out;omega
       have hb1:bb≠w.heap.size+1:=by have:=HBW.out;omega
       have hp1:=HP1.out;have hm8:Mut [g,pb,bb,w.heap.size+1] wc W8:=(M7.out.mono (by simp)).trans (M8.out.mono (by simp));have hm:Mut S w W8:=(Mut.of_below HL.out).trans_new hm8 (fun k hk=>by
        simp only[List.mem_cons,List.not_mem_nil,or_false]at hk;rcases hk with rfl|rfl|rfl|rfl;·exact .inl HGS.out
        ·exact .inr (by omega)
        ·exact .inl HI.out
        ·exact .inr (by omega));have hbk:=M8.out.blk _ _ LB7.out (by simpa using hb1);have hgk:=M8.out.blk _ _ LG7.out (by simpa using hg1);have hrk:=LR7.out.mut (S:=[w.heap.size+1]) (fun _ a ha=>by injection ha with ha;rw[←ha];simpa using hg1) M8.out;refine⟨fun h=>(by rw[HV.out]at h;cases h),fun p L' h=>?_⟩;rw[HV.out]at h;injection h with h;injection h with h1 h2;subst h1 h2;refine⟨rfl,⟨HI.out,?_⟩,hm⟩;rw[if_pos HEV.out];refine⟨A7,c-1,_,rfl,_,hbk,?_⟩;by_cases hc1:c=1;·have hr:r=[]:=List.eq_nil_of_length_eq_zero (by have:=HCL.out;omega);have hA:=HA7.out;rw[if_pos hc1]at hA;rw[hr,←hA];exact⟨SpG.of_nil _ _,fun h=>absurd h (by simp)⟩
       ·have hA:=HA7.out;rw[if_neg hc1]at hA;rw[←hA];exact⟨q88 hrk,fun _=>⟨g,off+3,_,rfl,hgk,HGS.out⟩⟩
      ·have hqe:(q==x2)=false:=by rw[beq_eq_false_iff_ne];exact hqx
       have HEV:=Lib.hid hqx;clear hqx;go_quiet(fail);obtain⟨Wd,hWd⟩:∃W,W6.drewN nq=W:=⟨_,rfl⟩;have LBd:=Lib.hid (j32 (n:=nq) LB6.out);have PBd:=Lib.hid (j32 (n:=nq) PB6.out);have LGd:=Lib.hid (j32 (n:=nq) LG6.out);have LRd:=Lib.hid (LR6.out.below (q15 (Below.refl _ _) nq));have L1d:=Lib.hid (j32 (n:=nq) L16.out);have Md:=Lib.hid (M6.out.drewN nq);rw[hWd]at LBd PBd LGd LRd L1d Md⊢;clear hWd LB6 PB6 LG6 LR6 L16 M6 d1 d2 dz;go_upto_region 20 with fail;obtain⟨W7,hW7⟩:∃W,Wd=W:=⟨_,rfl⟩;rw[hW7]at LBd PBd LGd LRd L1d Md⊢;have LB7:=LBd;have PB7:=PBd;have LG7:=LGd;have LR7:=LRd;have L17:=L1d;have M7:=Md;clear LBd PBd LGd LRd L1d Md hqe hW7;have z0:=bc 0 L17.out rfl;have z1:=bc 1 L17.out rfl;have z2:=bc 2 L17.out rfl;have zf0:=q13 (i:=0) L17.out;have zf1:=q13 (i:=1) L17.out;have zf2:=q13 (i:=2) L17.out;have zz:=q14 L17.out;have p0:=bc 0 PB7.out rfl;have p1:=bc 1 PB7.out rfl;have p2:=bc 2 PB7.out rfl;have pz:=q14 PB7.out;go_wp2_with fail;obtain⟨W8,hW8⟩:∃W,((W7.setCell ⟨w.heap.size+1,0,none⟩ (.string ⟨#[]⟩)).setCell ⟨w.heap.size+1,1,none⟩ (.int .i64 y1)).setCell ⟨w.heap.size+1,2,none⟩ (.int .i64 q)=W:=⟨_,rfl⟩;have X8:Hid (W8.heap[w.heap.size+1]?=some (.cells #[.string ⟨#[]⟩,.int .i64 y1,.int .i64 q] 82 (0,0))):=by simp only[Hid];rw[←hW8];exact j15 (j15 (j15 L17.out))
       have M8:Hid (Mut [w.heap.size+1] W7 W8):=by simp only[Hid];rw[←hW8];exact Mut.set (p:=⟨w.heap.size+1,2,none⟩) (by simp) _ (Mut.set (p:=⟨w.heap.size+1,1,none⟩) (by simp) _ (Mut.set (p:=⟨w.heap.size+1,0,none⟩) (by simp) _ (Mut.refl _ _)))
       rw[hW8];clear hW8 z0 z1 z2 zf0 zf1 zf2 zz p0 p1 p2 pz;have z0:=bc 0 X8.out rfl;have z1:=bc 1 X8.out rfl;have z2:=bc 2 X8.out rfl;refine bodyPost_ret (by simp[results,Tryz.results75,go_sem,z0,z1,z2];try rfl) rfl ?_;have hg1:g≠w.heap.size+1:=by have:=HGW.out;omega
       have hb1:bb≠w.heap.size+1:=by have:=HBW.out;omega
       have hp1:=HP1.out;have hm8:Mut [g,pb,bb,w.heap.size+1] wc W8:=(M7.out.mono (by simp)).trans (M8.out.mono (by simp));have hm:Mut S w W8:=(Mut.of_below HL.out).trans_new hm8 (fun k hk=>by
        simp only[List.mem_cons,List.not_mem_nil,or_false]at hk;rcases hk with rfl|rfl|rfl|rfl;·exact .inl HGS.out
        ·exact .inr (by omega)
        ·exact .inl HI.out
        ·exact .inr (by omega));have hbk:=M8.out.blk _ _ LB7.out (by simpa using hb1);have hgk:=M8.out.blk _ _ LG7.out (by simpa using hg1);have hrk:=LR7.out.mut (S:=[w.heap.size+1]) (fun _ a ha=>by injection ha with ha;rw[←ha];simpa using hg1) M8.out;refine⟨fun h=>(by rw[HV.out]at h;cases h),fun p L' h=>?_⟩;rw[HV.out]at h;injection h with h;injection h with h1 h2;subst h1 h2;refine⟨rfl,⟨HI.out,?_⟩,hm⟩;rw[if_neg HEV.out];exact⟨some ⟨g,off,none⟩,c,_,rfl,_,hbk,⟨hrk,fun _=>⟨g,off,_,rfl,hgk,HGS.out⟩⟩⟩
theorem j88{W w':World}{S:List Nat}{b o:Nat}{v:Value}(hm:Mut S W w')(hn:b∉S)(h:W.cell? ⟨b,o,none⟩=some v):w'.cell? ⟨b,o,none⟩=some v:=by have hlt:=World.block_lt_of_cell? W ⟨b,o,none⟩ h;have hw:W.heap[b]?=some W.heap[b]:=Array.getElem?_eq_getElem hlt;rw[World.cell?_of_block (w:=W) (w':=w') (a:=⟨b,o,none⟩) (by simp only;rw[hm.blk b _ hw hn,hw])];exact h
theorem BodyAt.alloc{S:List Nat}{w:World}{bb:Nat}{L:List w17}(h:BodyAt S w bb L)(o:Obj):BodyAt S (w.alloc o) bb L:=h.below (q11 (Below.refl _ _) _)
theorem BodyAt.mut{S T:List Nat}{w w':World}{bb:Nat}{L:List w17}(h:BodyAt T w bb L)(hT:∀k∈S,k∉T)(hm:Mut S w w'):BodyAt T w' bb L:=by
 obtain⟨A,c,n,hn,sent,h1,h2⟩:=h.blk;refine⟨h.in_,A,c,n,hn,sent,hm.blk _ _ h1 (fun hi=>hT _ hi h.in_),h2.sp.mut (fun h0 a ha hi=>?_) hm,fun hl=>?_⟩;·obtain⟨g,off,cs,e1,e2,e3⟩:=h2.own h0;rw[ha]at e1;injection e1 with e1;rw[e1]at hi;exact hT _ hi e3
 ·obtain⟨g,off,cs,e1,e2,e3⟩:=h2.own hl;exact⟨g,off,cs,e1,hm.blk _ _ e2 (fun hi=>hT _ hi e3),e3⟩
theorem BodyAt.mono{S T:List Nat}{w:World}{bb:Nat}{L:List w17}(h:BodyAt T w bb L)(hT:∀k∈T,k∈S):BodyAt S w bb L:=by
 obtain⟨A,c,n,hn,sent,h1,h2⟩:=h.blk;exact⟨hT _ h.in_,A,c,n,hn,sent,h1,h2.sp,fun hl=>by obtain⟨g,off,cs,e1,e2,e3⟩:=h2.own hl;exact⟨g,off,cs,e1,e2,hT _ e3⟩⟩
theorem BodyAt.small{S:List Nat}{w:World}{bb b:Nat}{L:List w17}{cs:Array Value}{f:Nat×Nat}(h:BodyAt S w bb L)(h0:L≠[])(hb:w.heap[b]?=some (.cells cs 132 f)):∃T,BodyAt T w bb L∧(∀k∈T,k∈S)∧b∉T:=by
 obtain⟨A,c,n,hn,sent,h1,h2⟩:=h.blk;obtain⟨g,off,cs',e1,e2,e3⟩:=h2.own (List.length_pos_iff.2 h0);refine⟨[bb,g],⟨by simp,A,c,n,hn,sent,h1,h2.sp,fun _=>⟨g,off,cs',e1,e2,by simp⟩⟩,?_,?_⟩;·
  intro k hk;simp only[List.mem_cons,List.not_mem_nil,or_false]at hk;rcases hk with rfl|rfl;·exact h.in_
  ·exact e3
 ·have h3:=k36 h1 hb (by decide);have h4:=k36 e2 hb (by decide);simp[Ne.symm h3,Ne.symm h4]
theorem q115(HA:Option Addr)(hc:Nat)(H:List (Int×Int))(cs:Int)(w:World):Calls Tryz.prog 75 #[.pointer none,.agg #[.slice HA H.length hc],.int .i64 cs] w fun e w'=>e=.returned (.tuple #[.agg #[.string ⟨#[]⟩,.int .i64 0,.int .i64 0],.bool false])∧Below w.heap.size w w':=by go_enter Tryz.func75,Tryz.ntmps75;go_wp2_with fail;refine bodyPost_ret (by simp[results,Tryz.results75,go_sem];try rfl) rfl ?_;exact⟨rfl,q11 (q11 (Below.refl _ _) _) _⟩
theorem v94(r:ReqC)(A:Option Addr)(c:Nat)(A1:Option Addr)(c1:Nat)(A2:Option Addr)(c2:Nat)(g:CfgL)(s:SesL)(en:Int)(bd:Value)(b:Nat)(HA:Option Addr)(hc:Nat)(H:List (Int×Int))(w:World)(hb:w.heap[b]?=some (.cells (sesC r A c A1 c1 A2 c2 g s en bd) 132 (0,0)))(hC:∀W,Below w.heap.size w W→Calls Tryz.prog 75 #[bd,.agg #[.slice HA H.length hc],.int .i64 g.j9] W fun e w'=>e=.returned (.tuple #[.agg #[.string ⟨#[]⟩,.int .i64 0,.int .i64 0],.bool false])∧Below W.heap.size W w'):Calls Tryz.prog 31 #[.pointer (some ⟨b,0,none⟩),.agg #[.slice HA H.length hc]] w fun e w'=>e=.returned (.tuple #[ptV ([],(0,0)),.bool false])∧Below w.heap.size w w':=by
 have HC:=Lib.hid hC;have HB:=Lib.hid hb;clear hC hb;go_enter Tryz.func31,Tryz.ntmps31;go_upto_region 1 with fail;obtain⟨W0,hW0,X0,X1,HB0⟩:=box2 w #[.slice HA H.length hc] 26 #[.string ⟨#[]⟩,.int .i64 0,.int .i64 0] 82;rw[hW0];clear hW0;have KB:Hid (W0.heap[b]?=some (.cells (sesC r A c A1 c1 A2 c2 g s en bd) 132 (0,0))):=j3 HB0.out HB.out;have HD:Hid (W0.cell? ⟨b,26,none⟩=some bd∧W0.cell? ⟨b,23,none⟩=some (.int .i64 g.j9)∧W0.cell? ⟨w.heap.size,0,none⟩=some (.slice HA H.length hc)):=⟨j14 KB.out rfl,j14 KB.out rfl,j14 X0.out rfl⟩;have kz:=q14 KB.out;have x0z:=q14 X0.out;go_cut[6,7](fun s6 s7 wx=>∃pb:Nat,s6=.pointer (some ⟨pb,0,none⟩)∧s7=.bool false∧W0.heap.size≤pb∧wx.heap[pb]?=some (.cells #[.string ⟨#[]⟩,.int .i64 0,.int .i64 0] 82 (0,0))∧Below W0.heap.size W0 wx);case first=>
  go_region_held3(fun w'=>w'.cell? ⟨b,26,none⟩=some bd∧w'.cell? ⟨b,23,none⟩=some (.int .i64 g.j9)∧w'.cell? ⟨w.heap.size,0,none⟩=some (.slice HA H.length hc))(((try dsimp only);refine⟨x16 (W:=W0) ?_ HD.out.1,x16 (W:=W0) ?_ HD.out.2.1,x16 (W:=W0) ?_ HD.out.2.2⟩<;>(repeat(first|exact Below.refl _ _|exact hbw|refine q15 ?_ _|refine x15 ?_|refine q11 ?_ _|refine w14 ?_ (by first|exact Nat.le_refl _|omega|(dsimp only;omega)|(simp;omega)) _))))(first
   |(go_at_call 75;refine(HC.out _ (by repeat(first|exact HB0.out|refine x15 ?_|refine q11 ?_ _))).mono ?_;rintro e w1⟨rfl,hb1⟩;have hbw:Below W0.heap.size W0 w1:=q12 hb1 (by repeat(first|exact Below.refl _ _|refine x15 ?_|refine q11 ?_ _));have ZB:Hid (w1.heap[W0.heap.size]?=some (.cells #[.string ⟨#[]⟩,.int .i64 0,.int .i64 0] 82 (0,0))):=j3 hb1 (j17 (w:=W0.drew) rfl);have z0:w1.cell? ⟨W0.heap.size,0,none⟩=some (.string ⟨#[]⟩):=j14 ZB.out rfl;have z1:w1.cell? ⟨W0.heap.size,1,none⟩=some (.int .i64 0):=j14 ZB.out rfl;have z2:w1.cell? ⟨W0.heap.size,2,none⟩=some (.int .i64 0):=j14 ZB.out rfl;have zf0:=q13 (i:=0) ZB.out;have zf1:=q13 (i:=1) ZB.out;have zf2:=q13 (i:=2) ZB.out;have zz:=q14 ZB.out;clear hb1)
   |(go_at_call 75;refine(HC.out _ (by repeat(first|exact HB0.out|refine x15 ?_|refine q11 ?_ _))).mono ?_;rintro e w1⟨rfl,hb1⟩;have hbw:Below W0.heap.size W0 w1:=q12 hb1 (by repeat(first|exact Below.refl _ _|refine x15 ?_|refine q11 ?_ _));clear hb1));all_goals go_wp2_with fail
  all_goals go_meet
  all_goals first|exact⟨_,rfl,rfl,hbw.size,j17 rfl,q11 hbw _⟩|exact⟨_,rfl,rfl,Nat.le_refl _,j15 (j15 (j15 ZB.out)),w14 (w14 (w14 hbw (Nat.le_refl _) _) (Nat.le_refl _) _) (Nat.le_refl _) _⟩
 case rest=>
  obtain⟨pb,rfl,rfl,hpb,hpk,hbx⟩:=hcut;have HPB:=Lib.hid hpk;have Z1:=Lib.hid (j3 hbx X1.out);have HBX:=Lib.hid (q12 hbx HB0.out);have p0:=bc 0 HPB.out rfl;have p1:=bc 1 HPB.out rfl;have p2:=bc 2 HPB.out rfl;have pz:=q14 HPB.out;have z0:=bc 0 Z1.out rfl;have z1:=bc 1 Z1.out rfl;have z2:=bc 2 Z1.out rfl;have zf0:=q13 (i:=0) Z1.out;have zf1:=q13 (i:=1) Z1.out;have zf2:=q13 (i:=2) Z1.out;have zz:=q14 Z1.out;clear hpk hbx hpb;go_wp2_with fail;obtain⟨W4,hW4⟩:∃W,((wc.setCell ⟨w.heap.size+1,0,none⟩ (.string ⟨#[]⟩)).setCell ⟨w.heap.size+1,1,none⟩ (.int .i64 0)).setCell ⟨w.heap.size+1,2,none⟩ (.int .i64 0)=W:=⟨_,rfl⟩;have X4:Hid (W4.heap[w.heap.size+1]?=some (.cells #[.string ⟨#[]⟩,.int .i64 0,.int .i64 0] 82 (0,0))):=by simp only[Hid];rw[←hW4];exact j15 (j15 (j15 Z1.out))
  have HB4:Hid (Below w.heap.size w W4):=by simp only[Hid];rw[←hW4];exact w14 (w14 (w14 HBX.out (Nat.le_succ _) _) (Nat.le_succ _) _) (Nat.le_succ _) _
  rw[hW4];clear hW4 z0 z1 z2 zz zf0 zf1 zf2 p0 p1 p2 pz;have z0:=bc 0 X4.out rfl;have z1:=bc 1 X4.out rfl;have z2:=bc 2 X4.out rfl;refine bodyPost_ret (by simp[results,Tryz.results31,go_sem,z0,z1,z2];try rfl) rfl ?_;exact⟨rfl,HB4.out⟩
theorem k122(r:ReqC)(A:Option Addr)(c:Nat)(A1:Option Addr)(c1:Nat)(A2:Option Addr)(c2:Nat)(g:CfgL)(s:SesL)(en:Int)(bd:Value)(b:Nat)(HA:Option Addr)(hc:Nat)(H:List (Int×Int))(w:World)(hb:w.heap[b]?=some (.cells (sesC r A c A1 c1 A2 c2 g s en bd) 132 (0,0)))(bb:Nat)(hbd:bd=.pointer (some ⟨bb,0,none⟩))(T:List Nat)(hnb:b∉T)(hT:∀k∈T,k<w.heap.size)(hst:s.st=2)(S:List Nat)(hI:b∈S)(hL:∀k∈S,k<w.heap.size)(hTS:∀k∈T,k∈S)(hrq:ReqOwn S r w A c A1 c1 A2 c2)(hen:en=s.en)(p:w17)(L':List w17)(hok:j29 L')(hC:∀W,Below w.heap.size w W→Calls Tryz.prog 75 #[bd,.agg #[.slice HA H.length hc],.int .i64 g.j9] W fun e w'=>e=.returned (.tuple #[.agg #[.string ⟨p.1.toArray⟩,.int .i64 p.2.1,.int .i64 p.2.2],.bool true])∧BodyAt T w' bb L'∧Mut T W w'):Calls Tryz.prog 31 #[.pointer (some ⟨b,0,none⟩),.agg #[.slice HA H.length hc]] w fun e w'=>e=.returned (.tuple #[ptV p,.bool true])∧k35 r g S b (if L'=[]then{s with st:=3,en:=0,lf:=[],told:=true}else{s with lf:=L',told:=true}) w w':=by
 have HI:=Lib.hid hI;have HL:=Lib.hid hL;have HTS:=Lib.hid hTS;have HR:=Lib.hid hrq;have HEN:=Lib.hid hen;have HOK:=Lib.hid hok;clear hI hL hTS hrq hen hok;obtain⟨sn,hsn⟩:∃x,(if L'=[]then{s with st:=3,en:=0,lf:=[],told:=true}else{s with lf:=L',told:=true})=x:=⟨_,rfl⟩;rw[hsn];have HSN:=Lib.hid hsn;clear hsn;have HC:=Lib.hid hC;have HB:=Lib.hid hb;have HST:=Lib.hid hst;have HNB:=Lib.hid hnb;have HT:=Lib.hid hT;have HBD:=Lib.hid hbd;have HNX:Hid (w.heap.size∉T):=fun hi=>by have:=hT _ hi;omega
 clear hC hb hst hnb hT hbd;go_enter Tryz.func31,Tryz.ntmps31;go_upto_region 1 with fail;obtain⟨W0,hW0,X0,X1,HB0⟩:=box2 w #[.slice HA H.length hc] 26 #[.string ⟨#[]⟩,.int .i64 0,.int .i64 0] 82;rw[hW0];clear hW0;have KB:Hid (W0.heap[b]?=some (.cells (sesC r A c A1 c1 A2 c2 g s en bd) 132 (0,0))):=j3 HB0.out HB.out;have HD:Hid (W0.cell? ⟨b,26,none⟩=some bd∧W0.cell? ⟨b,23,none⟩=some (.int .i64 g.j9)∧W0.cell? ⟨w.heap.size,0,none⟩=some (.slice HA H.length hc)):=⟨j14 KB.out rfl,j14 KB.out rfl,j14 X0.out rfl⟩;have kz:=q14 KB.out;have x0z:=q14 X0.out;have hs0:=HB0.out.size;have HNZ:Hid (W0.heap.size∉T):=fun hi=>by have:=HT.out _ hi;omega
 have HNW:Hid (∀k∈[W0.heap.size],k∉T):=fun k hk=>by rw[List.mem_singleton]at hk;rw[hk];exact HNZ.out
 go_cut[6,7](fun s6 s7 wx=>∃pb:Nat,s6=.pointer (some ⟨pb,0,none⟩)∧s7=.bool true∧W0.heap.size≤pb∧wx.heap[pb]?=some (.cells #[.string ⟨p.1.toArray⟩,.int .i64 p.2.1,.int .i64 p.2.2] 82 (0,0))∧BodyAt T wx bb L'∧Mut T W0 wx);case first=>
  go_region_held3(fun w'=>w'.cell? ⟨b,26,none⟩=some bd∧w'.cell? ⟨b,23,none⟩=some (.int .i64 g.j9)∧w'.cell? ⟨w.heap.size,0,none⟩=some (.slice HA H.length hc))(((try dsimp only);first|(refine⟨x16 (W:=W0) ?_ HD.out.1,x16 (W:=W0) ?_ HD.out.2.1,x16 (W:=W0) ?_ HD.out.2.2⟩<;>(repeat(first|exact Below.refl _ _|refine q15 ?_ _|refine x15 ?_|refine q11 ?_ _|refine w14 ?_ (by first|exact Nat.le_refl _|omega|(dsimp only;omega)|(simp;omega)) _));done)|(refine⟨j88 (W:=W0) ?_ HNB.out HD.out.1,j88 (W:=W0) ?_ HNB.out HD.out.2.1,j88 (W:=W0) ?_ HNX.out HD.out.2.2⟩<;>(repeat(first|exact hmw|refine Mut.drew ?_|refine Mut.alloc ?_ _|refine Mut.set_new (by first|exact Nat.le_refl _|omega|(dsimp only;omega)|(simp;omega)) _ ?_)))))(first
   |(go_at_call 75;refine(HC.out _ (by repeat(first|exact HB0.out|refine x15 ?_|refine q11 ?_ _))).mono ?_;rintro e w1⟨rfl,hq1,hb1⟩;have hmw:Mut T W0 w1:=(Mut.of_below (by repeat(first|exact Below.refl _ _|refine x15 ?_|refine q11 ?_ _))).trans hb1;have ZB:Hid (w1.heap[W0.heap.size]?=some (.cells #[.string ⟨#[]⟩,.int .i64 0,.int .i64 0] 82 (0,0))):=hb1.blk _ _ (j17 (w:=W0.drew) rfl) HNZ.out;have z0:w1.cell? ⟨W0.heap.size,0,none⟩=some (.string ⟨#[]⟩):=j14 ZB.out rfl;have z1:w1.cell? ⟨W0.heap.size,1,none⟩=some (.int .i64 0):=j14 ZB.out rfl;have z2:w1.cell? ⟨W0.heap.size,2,none⟩=some (.int .i64 0):=j14 ZB.out rfl;have zf0:=q13 (i:=0) ZB.out;have zf1:=q13 (i:=1) ZB.out;have zf2:=q13 (i:=2) ZB.out;have zz:=q14 ZB.out;clear hb1)
   |(go_at_call 75;refine(HC.out _ (by repeat(first|exact HB0.out|refine x15 ?_|refine q11 ?_ _))).mono ?_;rintro e w1⟨rfl,hq1,hb1⟩;have hmw:Mut T W0 w1:=(Mut.of_below (by repeat(first|exact Below.refl _ _|refine x15 ?_|refine q11 ?_ _))).trans hb1;clear hb1));all_goals go_wp2_with fail
  all_goals go_meet
  all_goals first|exact⟨_,rfl,rfl,hmw.size,j17 rfl,hq1.alloc _,hmw.alloc _⟩|exact⟨_,rfl,rfl,Nat.le_refl _,j15 (j15 (j15 ZB.out)),hq1.mut (S:=[W0.heap.size]) HNW.out (Mut.set (p:=⟨W0.heap.size,2,none⟩) (by simp) _ (Mut.set (p:=⟨W0.heap.size,1,none⟩) (by simp) _ (Mut.set (p:=⟨W0.heap.size,0,none⟩) (by simp) _ (Mut.refl _ _)))),Mut.set_new (p:=⟨W0.heap.size,2,none⟩) (Nat.le_refl _) _ (Mut.set_new (p:=⟨W0.heap.size,1,none⟩) (Nat.le_refl _) _ (Mut.set_new (p:=⟨W0.heap.size,0,none⟩) (Nat.le_refl _) _ hmw))⟩
 case rest=>
  obtain⟨pb,rfl,rfl,hpb,hpk,hbo,hmx⟩:=hcut;have hnb:=HNB.out;have hnx1:w.heap.size+1∉T:=fun hi=>by have:=HT.out _ hi;omega
  have KBc:=Lib.hid (hmx.blk _ _ KB.out hnb);have X1c:=Lib.hid (hmx.blk _ _ X1.out hnx1);have HPB:=Lib.hid hpk;have HPO:=Lib.hid hpb;have HBO:=Lib.hid hbo;have HMX:=Lib.hid hmx;have HBW:=Lib.hid (q14 HB.out);have HX1:=Lib.hid (q14 X1.out);clear hpb hpk hbo hmx hnb hnx1;have k28:wc.cell? ⟨b,28,none⟩=some (.bool s.told):=j14 KBc.out rfl;have kf28:wc.frozen? ⟨b,28,none⟩=false:=q13 KBc.out;have kz:=q14 KBc.out;go_upto_region 4 with fail;obtain⟨V1,hV1⟩:∃W,wc.setCell ⟨b,28,none⟩ (.bool true)=W:=⟨_,rfl⟩;have K1:Hid (V1.heap[b]?=some (.cells (sesC r A c A1 c1 A2 c2 g {s with told:=true} en bd) 132 (0,0))):=by simp only[Hid];rw[←hV1];exact j15 KBc.out
  have M1:Hid (Mut [b] wc V1):=by simp only[Hid];rw[←hV1];exact Mut.set (p:=⟨b,28,none⟩) (by simp) _ (Mut.refl _ _)
  rw[hV1];clear hV1 k28 kf28 kz;have HBO1:Hid (BodyAt T V1 bb L'):=HBO.out.mut (S:=[b]) (fun k hk=>by rw[List.mem_singleton]at hk;rw[hk];exact HNB.out) M1.out;obtain⟨bA,bc,bn,hbn,bsent,hbk,hprow⟩:=HBO1.out.blk;subst hbn;obtain⟨V2,bd2,h9,k9,m9,hbd2⟩:∃V2 bd2,(if L'.length=0 then(V1.setCell ⟨b,24,none⟩ (.int .i64 3)).setCell ⟨b,26,none⟩ (.pointer none)else V1)=V2∧V2.heap[b]?=some (.cells (sesC r A c A1 c1 A2 c2 g sn en bd2) 132 (0,0))∧Mut [b] V1 V2∧(L'=[]→bd2=.pointer none)∧(L'≠[]→bd2=bd):=by
   have hsn:=HSN.out;by_cases hp:L'=[];·rw[if_pos hp]at hsn;subst hsn;exact⟨_,.pointer none,if_pos (by rw[hp];rfl),j15 (j15 K1.out),Mut.set (p:=⟨b,26,none⟩) (by simp) _ (Mut.set (p:=⟨b,24,none⟩) (by simp) _ (Mut.refl _ _)),fun _=>rfl,fun h=>absurd hp h⟩
   ·rw[if_neg hp]at hsn;subst hsn;exact⟨_,bd,if_neg (fun h=>hp (List.eq_nil_of_length_eq_zero h)),K1.out,Mut.refl _ _,fun h=>absurd h hp,fun _=>rfl⟩
  have HE9:Hid (Calls Tryz.prog 69 #[.pointer (some ⟨b,0,none⟩)] V1 fun e w'=>e=.returned (.tuple #[])∧w'=V2):=by
   have e1:(sesC r A c A1 c1 A2 c2 g {s with told:=true} en bd)[24]?=some (.int .i64 s.st):=rfl;have e2:(sesC r A c A1 c1 A2 c2 g {s with told:=true} en bd)[26]?=some bd:=rfl;have e3:some (Value.int .i64 s.st)=some (.int .i64 2):=by rw[HST.out]
   have e4:some bd=some (.pointer (some ⟨bb,0,none⟩)):=by rw[HBD.out]
   have h:=q62 b bb _ bA bc L'.length bsent V1 K1.out (e1.trans e3) (e2.trans e4) hbk;rw[h9]at h;exact h
  have K2:=Lib.hid k9;have M2:Hid (Mut [b] wc V2):=M1.out.trans m9;have HB2:=Lib.hid hbd2;clear h9 k9 m9 hbk hprow HBO1 hbd2;have hpbb:pb≠b:=by have:=HPO.out;have:=HB0.out.size;have:=HBW.out;omega
  have hxb:w.heap.size+1≠b:=by have:=HBW.out;omega
  have PB2:=Lib.hid (M2.out.blk _ _ HPB.out (by simpa using hpbb));have X12:=Lib.hid (M2.out.blk _ _ X1c.out (by simpa using hxb));go_upto_region 5 with(go_at_call 69;refine HE9.out.mono ?_;rintro e v2⟨rfl,hv2⟩;obtain rfl:V2=v2:=hv2.symm);have p0:=j14 (i:=0) PB2.out rfl;have p1:=j14 (i:=1) PB2.out rfl;have p2:=j14 (i:=2) PB2.out rfl;have pz:=q14 PB2.out;have z0:=j14 (i:=0) X12.out rfl;have z1:=j14 (i:=1) X12.out rfl;have z2:=j14 (i:=2) X12.out rfl;have zf0:=q13 (i:=0) X12.out;have zf1:=q13 (i:=1) X12.out;have zf2:=q13 (i:=2) X12.out;have zz:=q14 X12.out;go_wp2_with fail;obtain⟨W4,hW4⟩:∃W,((V2.setCell ⟨w.heap.size+1,0,none⟩ (.string ⟨p.1.toArray⟩)).setCell ⟨w.heap.size+1,1,none⟩ (.int .i64 p.2.1)).setCell ⟨w.heap.size+1,2,none⟩ (.int .i64 p.2.2)=W:=⟨_,rfl⟩;have X4:Hid (W4.heap[w.heap.size+1]?=some (.cells #[.string ⟨p.1.toArray⟩,.int .i64 p.2.1,.int .i64 p.2.2] 82 (0,0))):=by simp only[Hid];rw[←hW4];exact j15 (j15 (j15 X12.out))
  have M4:Hid (Mut [w.heap.size+1] V2 W4):=by simp only[Hid];rw[←hW4];exact Mut.set (p:=⟨w.heap.size+1,2,none⟩) (by simp) _ (Mut.set (p:=⟨w.heap.size+1,1,none⟩) (by simp) _ (Mut.set (p:=⟨w.heap.size+1,0,none⟩) (by simp) _ (Mut.refl _ _)))
  rw[hW4];clear hW4 z0 z1 z2 zz zf0 zf1 zf2 p0 p1 p2 pz;have z0:=j14 (i:=0) X4.out rfl;have z1:=j14 (i:=1) X4.out rfl;have z2:=j14 (i:=2) X4.out rfl;refine bodyPost_ret (by simp[results,Tryz.results31,go_sem,z0,z1,z2];try rfl) rfl ?_;have hk4:=M4.out.blk _ _ K2.out (by simpa using Ne.symm hxb);have hm24:Mut [b,w.heap.size+1] wc W4:=(M2.out.mono (by simp)).trans (M4.out.mono (by simp));have hm:Mut S w W4:=((Mut.of_below HB0.out).trans (HMX.out.mono HTS.out)).trans_new hm24 (fun k hk=>by
   simp only[List.mem_cons,List.not_mem_nil,or_false]at hk;rcases hk with rfl|rfl;·exact .inl HI.out
   ·exact .inr (by omega));have hbo:BodyAt T W4 bb L':=HBO.out.mut (fun k hk hi=>by
   simp only[List.mem_cons,List.not_mem_nil,or_false]at hk;rcases hk with rfl|rfl;·exact HNB.out hi
   ·have:=HT.out _ hi;omega) hm24;refine⟨rfl,?_⟩;have hsn:=HSN.out;have hlt:∀k∈S,k<W4.heap.size:=fun k hk=>Nat.lt_of_lt_of_le (HL.out k hk) hm.size;by_cases hp:L'=[];·rw[if_pos hp]at hsn;rw[HB2.out.1 hp]at hk4;subst hsn;exact j28 ⟨HI.out,hlt,A,c,A1,c1,A2,c2,_,_,hk4,HR.out.mut hm,fun hst=>absurd hst (by simp),fun _=>⟨rfl,rfl⟩⟩ hm
  ·rw[if_neg hp]at hsn;rw[HB2.out.2 hp]at hk4;subst hsn;exact j28 ⟨HI.out,hlt,A,c,A1,c1,A2,c2,_,_,hk4,HR.out.mut hm,fun _=>⟨HEN.out,hp,HOK.out,bb,HBD.out,hbo.mono HTS.out⟩,fun hst=>absurd HST.out hst⟩ hm
def v98(r:ReqC)(g:CfgL)(S:List Nat)(b:Nat)(s:SesL)(H:List (Int×Int))(w:World)(e:Ending)(w':World):Prop:=(s.nextS H g.j9=none→e=.returned (.tuple #[ptV ([],(0,0)),.bool false])∧k35 r g S b s w w')∧(∀p s',s.nextS H g.j9=some (p,s')→e=.returned (.tuple #[ptV p,.bool true])∧k35 r g S b s' w w')
theorem k62(r:ReqC)(g:CfgL)(S:List Nat)(b:Nat)(s:SesL)(w:World)(h:SesAt r g S w b s)(HA:Option Addr)(hc:Nat)(H:List (Int×Int))(hsp:Sp w HA hc H)(hcan:Canon H)(hl:H.length≤10000)(hcs:1≤g.j9∧g.j9≤4611686018427387904):Calls Tryz.prog 31 #[.pointer (some ⟨b,0,none⟩),.agg #[.slice HA H.length hc]] w (v98 r g S b s H w):=by
 obtain⟨A,c,A1,c1,A2,c2,en,bd,hb,hrq,hT,hN⟩:=h.blk;by_cases hst:s.st=2;rotate_left;·obtain⟨rfl,hen⟩:=hN hst;refine(v94 r A c A1 c1 A2 c2 g s en _ b HA hc H w hb (fun W _=>q115 HA hc H g.j9 W)).mono ?_;rintro e w'⟨rfl,hbw⟩;have hv:s.nextS H g.j9=none:=if_neg hst;exact⟨fun _=>⟨rfl,j28 (h.alloc hbw) (Mut.of_below hbw)⟩,fun p s' h=>by rw[hv]at h;cases h⟩
 obtain⟨hen,hne,hok,bb,hbd,hbo⟩:=hT hst;obtain⟨T,ht1,ht2,ht3⟩:=hbo.small hne hb;subst hbd;have hv:s.nextS H g.j9=(w43 H g.j9 s.lf).map fun x=>(x.1,if x.2=[]then{s with st:=3,en:=0,lf:=[],told:=true}else{s with lf:=x.2,told:=true}):=if_pos hst;cases ht:w43 H g.j9 s.lf with
  |none=>rw[ht]at hv;refine(v94 r A c A1 c1 A2 c2 g s en _ b HA hc H w hb (fun W hW=>(q75 T bb s.lf W (ht1.below hW) hok HA hc H (hsp.below hW) hcan hl g.j9 hcs).mono fun e w' h=>h.1 ht)).mono ?_;rintro e w'⟨rfl,hbw⟩;exact⟨fun _=>⟨rfl,j28 (h.alloc hbw) (Mut.of_below hbw)⟩,fun p s' h=>by rw[hv]at h;cases h⟩
  |some x=>obtain⟨p,L'⟩:=x;rw[ht]at hv;have hok':=(j126 hcan hcs.1 hok ht).1;refine(k122 r A c A1 c1 A2 c2 g s en _ b HA hc H w hb bb rfl T ht3 (fun k hk=>h.lt k (ht2 k hk)) hst S h.in_ h.lt ht2 hrq hen p L' hok' (fun W hW=>(q75 T bb s.lf W (ht1.below hW) hok HA hc H (hsp.below hW) hcan hl g.j9 hcs).mono fun e w' h=>h.2 p L' ht)).mono ?_;rintro e w'⟨rfl,hpost⟩;refine⟨fun h=>(by rw[hv]at h;cases h),fun q s' h=>?_⟩;rw[hv]at h;simp only[Option.map_some,Option.some.injEq,Prod.mk.injEq]at h;obtain⟨rfl,rfl⟩:=h;exact⟨rfl,hpost⟩
end Go.Proofs.YtbphndihjdiiiaaGreatDoor
