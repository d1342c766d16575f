/- Plain: how a session goes on, what its fence tells, and what is told of its .. -/
import Derived.Test.YtkkomffmnafjkaaGreatDoorZO24
import Derived.Test.YtkkomffmnafjkaaGreatDoorZO19
set_option maxHeartbeats 16000000
set_option maxRecDepth 100000
set_option linter.all false
namespace Go.Proofs.YtkkomffmnafjkaaGreatDoor
open Go.RowKit
def SesL.fenceS(s:SesL)(H F:List (Int×Int))(tu fa jo:Bool):Int:=if s.st=1 then 0 else if s.st=3 then 6 else if s.told=false∧(w168 s.told tu fa jo s.ag s.needS H F=4∨w168 s.told tu fa jo s.ag s.needS H F=5)then w168 s.told tu fa jo s.ag s.needS H F else match s.lf with|[]=>6|p::_=>if p.1=[]then w168 true tu fa jo s.ag [p.2] H F else 1
theorem v179{tu fa jo:Bool}{ag:Int}{R H F:List (Int×Int)}(h:w168 false tu fa jo ag R H F=4∨w168 false tu fa jo ag R H F=5):z169 tu fa jo R H F≠[]:=by
 intro he;unfold w168 at h;split at h;·omega
 ·rw[he]at h;simp only[List.isEmpty_nil,Bool.not_true,Bool.false_and,Bool.false_eq_true,if_false,if_true]at h;split at h;·omega
  ·split at h<;>omega
def SesL.nextS(s:SesL)(H:List (Int×Int))(cs:Int):Option (w17×SesL):=if s.st=2 then(w43 H cs s.lf).map fun x=>(x.1,if x.2=[]then{s with st:=3,en:=0,lf:=[],told:=true}else{s with lf:=x.2,told:=true})else none
def SesL.sealS(s:SesL)(n:Int):SesL:=if s.st=2 then match x36 n s.lf with|none=>s|some L=>if L=[]then{s with st:=3,en:=0,lf:=[]}else{s with lf:=L}else s
structure SesL.Ok(s:SesL):Prop where
 st:s.st=1∨s.st=2∨s.st=3
 tells:s.st=2→s.lf≠[]∧j29 s.lf
 asks:s.st=1→s.told=false∧s.cut=false
 over:s.st≠2→s.en=0
 ag:0≤s.ag∧s.ag≤100
theorem SesL.Ok.cut{s:SesL}(h:s.Ok):s.cutS.Ok:=by
 unfold SesL.cutS;split;·exact h
 ·exact⟨.inr (.inr rfl),fun h=>absurd h (by simp),fun h=>absurd h (by simp),fun _=>rfl,h.ag⟩
theorem SesL.Ok.fail{s:SesL}(h:s.Ok)(h1:s.st=1):s.failS.Ok:=⟨.inr (.inr rfl),fun h=>absurd h (by simp[SesL.failS]),fun h=>absurd h (by simp[SesL.failS]),fun _=>h.over (by omega),h.ag⟩
theorem SesL.Ok.meet{s:SesL}(h:s.Ok)(id:Int){ps:List w17}(hb:j29 ps):(s.meetS id ps).Ok:=by
 unfold SesL.meetS;split;·exact⟨.inr (.inr rfl),fun h=>absurd h (by simp),fun h=>absurd h (by simp),fun _=>rfl,h.ag⟩
 ·next hne=>exact⟨.inr (.inl rfl),fun _=>⟨hne,hb⟩,fun h=>absurd h (by simp),fun h=>absurd rfl h,h.ag⟩
theorem SesL.Ok.next{s s':SesL}{H:List (Int×Int)}{cs:Int}{p:w17}(h:s.Ok)(hc:Canon H)(hcs:1≤cs)(hn:s.nextS H cs=some (p,s')):s'.Ok∧k58 p:=by
 unfold SesL.nextS at hn;split at hn;·
  next h2=>
   obtain⟨⟨q,L⟩,hq,he⟩:=aO_.1 hn;obtain⟨h3,h4⟩:=j126 hc hcs (h.tells h2).2 hq;simp only[Prod.mk.injEq]at he;obtain⟨rfl,rfl⟩:=he;refine⟨?_,h4⟩;split;·exact⟨.inr (.inr rfl),fun h=>absurd h (by simp),fun h=>absurd h (by simp),fun _=>rfl,h.ag⟩
   ·next hne=>exact⟨.inr (.inl h2),fun _=>⟨hne,h3⟩,fun h1=>absurd (h2.symm.trans h1) (by decide),fun h1=>absurd h2 h1,h.ag⟩
 ·cases hn
theorem j98{n:Int}:∀{L L':List w17},j29 L→x36 n L=some L'→j29 L'
 |[],_,_,h=>by cases h
 |[p],L',hb,h=>by
  simp only[x36]at h;split at h;·
   next hc=>
    obtain⟨h1,h2,h3,h4⟩:=hc;injection h with h;rw[←h];split;·trivial
    ·next hne=>
      obtain⟨hp,_,_⟩:=hb;have hpe:p.1=[]:=by unfold j40 at h1;simp only[r_,aN_]at h1;exact h1.1
      rcases hp with⟨a1,_⟩|⟨_,a2,a3⟩;·exact absurd hpe a1
      ·obtain⟨o1,o2,o3⟩:=(j19 p.2).1 a2;exact⟨.inr ⟨rfl,(j19 _).2 ⟨o1,h4,by simp only;omega⟩,by simp only;omega⟩,fun h=>absurd rfl h,trivial⟩
  ·cases h
 |p::q::r,L',hb,h=>by rw[x36]at h;obtain⟨L2,h2,rfl⟩:=aO_.1 h;obtain⟨hp,ho,hr⟩:=hb;exact⟨hp,fun _=>ho (by simp),j98 hr h2⟩
theorem SesL.Ok.seal{s:SesL}(h:s.Ok)(n:Int):(s.sealS n).Ok:=by
 unfold SesL.sealS;split;·
  next h2=>
   split;·exact h
   ·next L hL=>
     have hb:=j98 (h.tells h2).2 hL;split;·exact⟨.inr (.inr rfl),fun h=>absurd h (by simp),fun h=>absurd h (by simp),fun _=>rfl,h.ag⟩
     ·next hne=>exact⟨.inr (.inl h2),fun _=>⟨hne,hb⟩,fun h1=>absurd (h2.symm.trans h1) (by decide),fun h1=>absurd h2 h1,h.ag⟩
 ·exact h
theorem SesL.Ok.anew{s:SesL}(h:s.Ok)(a1 a2 a3:Int)(hm:s.mayAnew)(hcut:s.cut=false):(s.anewS a1 a2 a3).Ok:=by obtain⟨h1,h2,h3⟩:=hm;exact⟨.inl rfl,fun h=>absurd h (by simp[SesL.anewS]),fun _=>⟨h2,hcut⟩,fun _=>rfl,by have:=h.ag;simp only[SesL.anewS];omega⟩
def step1(x:w17)(r:List w17)(p:w17):Option (List w17):=if x.1=[]then if p.1=[]∧p.2.1=x.2.1∧p.2.2≤x.2.2∧p.2.1<p.2.2 then some (if p.2.2=x.2.2 then r else([],(p.2.2,x.2.2))::r)else none else if p.1≠[]∧p.1.length≤x.1.length∧x.1.take p.1.length=p.1 then some (if x.1.drop p.1.length=[]then r else(x.1.drop p.1.length,x.2)::r)else none
def w13:List w17→List w17→Option (List w17)|L,[]=>some L|[],_::_=>none|x::r,p::T=>(step1 x r p).bind fun L=>w13 L T
theorem y146{T:List w17}{p:w17}:∀{L:List w17},w13 L (T++[p])=(w13 L T).bind fun L'=>w13 L' [p]:=by
 induction T with
  |nil=>intro L;simp[w13]
  |cons q T ih=>
   intro L;cases L with
    |nil=>simp[w13]
    |cons x r=>simp only[ae_,w13];cases step1 x r q with|none=>rfl|some L2=>exact ih
theorem k170{H:List (Int×Int)}(hc:Canon H){cs:Int}(hcs:1≤cs){L L':List w17}{p:w17}(hL:j29 L)(h:w43 H cs L=some (p,L')):w13 L [p]=some L':=by
 cases L with
  |nil=>cases h
  |cons q r=>
   obtain⟨h1,h2,h3⟩:=hL;change j182 H cs q r=some (p,L')at h;have hb:w13 (q::r) [p]=step1 q r p:=by simp only[w13];cases step1 q r p<;>rfl
   rw[hb];unfold j182 at h;unfold step1;rcases h1 with⟨a1,a2⟩|⟨a1,a2,a3⟩;·
    rw[q_ a1]at h⊢;injection h with h;injection h with h4 h5;have hq:0<q.1.length:=bf_.2 a1;have hlen:(q.1.take cs.toNat).length=min cs.toNat q.1.length:=N_;rw[←h4,←h5];simp only;have hne:q.1.take cs.toNat≠[]:=fun e=>by
     rcases List.take_eq_nil_iff.1 e with e|e;·omega
     ·exact a1 e
    rw[w_ ⟨hne,by rw[hlen];omega,by rw[hlen,List.take_eq_take_iff];omega⟩,hlen];by_cases hle:q.1.length≤cs.toNat;·rw[w_ hle,w_ (bp_.2 (by omega))]
    ·rw[q_ hle,q_ (fun e=>hle (by have:=bp_.1 e;omega)),Nat.min_eq_left (by omega)]
   ·rw[w_ a1]at h⊢;have hT:=j87 hc hcs a3;split at h;·cases h
    ·next hne=>injection h with h;injection h with h4 h5;have hlo:=hT.lo;have hhi:=hT.hi;rw[←h4,←h5];simp only;rw[w_ ⟨trivial,trivial,hhi,by omega⟩]
structure SesL.Forth(s s':SesL)(anew:Bool):Prop where
 over:s.st=3→s'=s
 forth:anew=false→s.st≤s'.st
theorem SesL.Forth.refl(s:SesL)(a:Bool):s.Forth s a:=⟨fun _=>rfl,fun _=>ao_ _⟩
theorem q149(s:SesL)(hs:s.Ok)(a:Bool):s.Forth s.cutS a:=by
 unfold SesL.cutS;split;·exact .refl _ _
 ·next h=>exact⟨fun h2=>absurd h2 h,fun _=>by have:=hs.st;simp only;omega⟩
theorem k136(s:SesL)(h1:s.st=1)(a:Bool):s.Forth s.failS a:=⟨fun h=>by omega,fun _=>by simp only[SesL.failS];omega⟩
theorem x136(s:SesL)(h1:s.st=1)(id:Int)(ps:List w17)(a:Bool):s.Forth (s.meetS id ps) a:=⟨fun h=>by omega,fun _=>by unfold SesL.meetS;split<;>(simp only;omega)⟩
theorem y136(s:SesL)(n:Int)(a:Bool):s.Forth (s.sealS n) a:=by
 unfold SesL.sealS;split;·
  next h=>
   split;·exact .refl _ _
   ·split;·exact⟨fun h2=>by omega,fun _=>by simp only;omega⟩
    ·exact⟨fun h2=>by omega,fun _=>by simp only;omega⟩
 ·exact .refl _ _
theorem w136(s s':SesL)(H:List (Int×Int))(cs:Int)(p:w17)(h:s.nextS H cs=some (p,s'))(a:Bool):s.Forth s' a:=by
 unfold SesL.nextS at h;split at h;·
  next h2=>
   obtain⟨⟨q,L⟩,_,he⟩:=aO_.1 h;simp only[Prod.mk.injEq]at he;rw[←he.2];split;·exact⟨fun h3=>by omega,fun _=>by simp only;omega⟩
   ·exact⟨fun h3=>by omega,fun _=>by simp only;omega⟩
 ·cases h
theorem z137(s:SesL)(a1 a2 a3:Int)(h:s.mayAnew):s.Forth (s.anewS a1 a2 a3) true:=⟨fun h2=>by have:=h.1;omega,fun h=>by cases h⟩
structure Both(r:ReqC)(g:CfgL)(w0:World)(S D:List Nat)(w:World)(b b2:Nat)(s x:SesL):Prop where
 p:SesAt r g S w b s
 d:SexAt r g D w b2 x
 sub:∀k∈S,k∈D
 ne:b2∉S
 low:∀k∈D,w0.heap.size≤k
 bel:Below w0.heap.size w0 w
section
variable{r:ReqC}{g:CfgL}{w0:World}{S S' D:List Nat}{w w':World}{b b2:Nat}{s s' x x':SesL}
theorem Both.step(h:Both r g w0 S D w b b2 s x)(h1:SesAt r g S' w' b s')(h2:∀k∈S',k∈S∨w.heap.size≤k)(hm:Mut S w w'):Both r g w0 S' (D++S') w' b b2 s' x:=by
 have hlow:∀k∈D++S',w0.heap.size≤k:=fun k hk=>by
  rcases A_.1 hk with hk|hk;·exact h.low k hk
  ·rcases h2 k hk with h3|h3;·exact h.low k (h.sub k h3)
   ·have:=h.bel.size;omega
 have hne:b2∉S':=fun hin=>by
  rcases h2 _ hin with h3|h3;·exact h.ne h3
  ·have:=h.d.lt _ h.d.in_;omega
 refine⟨h1,h.d.mut hm h.sub h.ne (A_.2 (.inl h.d.in_)) (fun k hk=>?_) (fun k hk=>?_),fun k hk=>A_.2 (.inr hk),hne,hlow,?_⟩;·
  rcases A_.1 hk with hk|hk;·exact G_ (h.d.lt k hk) hm.size
  ·exact h1.lt k hk
 ·rcases A_.1 hk with hk|hk;·exact .inl hk
  ·exact(h2 k hk).imp_left (h.sub k)
 ·exact h.bel.trans (hm.below (fun k hk=>h.low k (h.sub k hk)) h.bel.size)
theorem Both.post(h:Both r g w0 S D w b b2 s x)(hp:k35 r g S b s' w w'):∃S' D',Both r g w0 S' D' w' b b2 s' x:=by obtain⟨S',h1,h2,_,hm⟩:=hp;exact⟨S',_,h.step h1 h2 hm⟩
theorem Both.doc(h:Both r g w0 S D w b b2 s x)(h1:SexAt r g D w' b2 x')(hm:Mut [b2] w w'):Both r g w0 S D w' b b2 s x':=by obtain⟨A,c,A1,c1,A2,c2,B,d,n,hk,_,_⟩:=h.d.blk;exact⟨h.p.mut1 hk hm,h1,h.sub,h.ne,h.low,h.bel.trans (hm.below (fun k hk=>by rw[D_]at hk;rw[hk];exact h.low _ h.d.in_) h.bel.size)⟩
theorem Both.below(h:Both r g w0 S D w b b2 s x)(hb:Below w.heap.size w w'):Both r g w0 S D w' b b2 s x:=⟨h.p.alloc hb,h.d.alloc hb,h.sub,h.ne,h.low,q12 hb h.bel⟩
theorem Both.start{a1 a2 a3:Int}{w1:World}(h1:SesAt r g [b] w b (newS g a1 a2 a3))(hb1:w0.heap.size≤b)(hb:Below w0.heap.size w0 w)(h2:SexAt r g [b2,b] w1 b2 (newS g a1 a2 a3))(hb2:w.heap.size≤b2)(hw:Below w.heap.size w w1):Both r g w0 [b] [b2,b] w1 b b2 (newS g a1 a2 a3) (newS g a1 a2 a3):=by have hlt:=h1.lt b (by simp);have hsz:=hb.size;refine⟨h1.alloc hw,h2,by simp,by simp;omega,?_,q12 hw hb⟩;intro k hk;simp only[C_,H_,au_]at hk;rcases hk with rfl|rfl<;>omega
end
structure OpX where
 kind:Int
 id:Int
 ob:List UInt8
 m:MetaL
 KA:Option Addr
 kc:Nat
 x1:Int
 x2:Int
 x3:Int
 tu:Bool
 a1:Int
 a2:Int
 a3:Int
 n:Int
 HA:Option Addr
 hc:Nat
 H:List (Int×Int)
 FA:Option Addr
 fc:Nat
 F:List (Int×Int)
 tr:Bool
 fa:Bool
 jo:Bool
instance:Inhabited OpX:=⟨⟨0,0,[],⟨[],false,0,0,0,0,0,0,[],[],false⟩,none,0,0,0,0,false,0,0,0,0,none,0,[],none,0,[],false,false,false⟩⟩
def w19(o:OpX):List Value:=[.int .u8 o.kind,.int .i64 o.id,.string ⟨o.ob.toArray⟩,.string ⟨o.m.tag.toArray⟩,.bool o.m.weak,.int .i64 o.m.mo,.int .i64 o.m.len,.int .i64 o.m.hv,.int .i64 o.m.fresh,.int .i64 o.m.wh,.int .i64 o.m.er,.slice o.KA o.m.keys.length o.kc,.string ⟨o.m.ten.toArray⟩,.bool o.m.keep,.int .i64 o.x1,.int .i64 o.x2,.int .i64 o.x3,.bool o.tu,.int .i64 o.a1,.int .i64 o.a2,.int .i64 o.a3,.int .i64 o.n,.slice o.HA o.H.length o.hc,.slice o.FA o.F.length o.fc,.bool o.tr,.bool o.fa,.bool o.jo]
structure OpAt(w:World)(o:OpX):Prop where
 k:SpG encT 1 w o.KA o.kc o.m.keys
 h:Sp w o.HA o.hc o.H
 f:Sp w o.FA o.fc o.F
 kind:0≤o.kind∧o.kind≤255
 n:-9223372036854775808≤o.n∧o.n≤9223372036854775807
 hl:o.H.length≤9223372036854775807
 fl:o.F.length≤9223372036854775807
 kl:o.m.keys.length≤9223372036854775807
theorem OpAt.below{w w':World}{o:OpX}(h:OpAt w o)(hb:Below w.heap.size w w'):OpAt w' o:=⟨h.k.below hb,h.h.below hb,h.f.below hb,h.kind,h.n,h.hl,h.fl,h.kl⟩
def q43(o:OpX):Prop:=j46 o.m∧o.ob.length≤100∧o.H.length≤8∧o.F.length≤8
def k57(r:ReqC)(A:Option Addr)(c:Nat)(A1:Option Addr)(c1:Nat)(A2:Option Addr)(c2:Nat)(a1 a2 a3:Int)(g:CfgL)(LA:Option Addr)(ln lc:Nat):Array Value:=#[.bool r.hd,.string ⟨r.ob.toArray⟩,.slice A r.L.length c,.slice A1 r.k.M.length c1,.slice A2 r.k.N.length c2,.bool r.k.am,.bool r.k.an,.int .i64 r.k.si,.int .i64 r.k.un,.string ⟨r.k.rt.toArray⟩,.bool r.k.rw,.int .i64 a1,.int .i64 a2,.int .i64 a3,.int .i64 g.j0,.int .i64 g.j1,.int .i64 g.j2,.int .i64 g.cs,.int .i64 g.j4,.int .i64 g.j5,.int .i64 g.j6,.int .i64 g.j7,.int .i64 g.j8,.int .i64 g.j9,.slice LA ln lc]
theorem q137{H:List (Int×Int)}{p:w17}(h:p.1≠[]):x46 H p=some p:=by unfold x46;rw[q_ h]
theorem j137{H:List (Int×Int)}{p:w17}{r:List w17}{cs:Int}(h:x46 H p=none):j182 H cs p r=none:=by
 unfold x46 at h;split at h;·
  next hp=>
   have hn:toN H cs p.2.1 p.2.2=p.2.1:=by
    unfold toN;split at h;·
     next x hx=>
      rw[hx];simp only;split at h;·cases h
      ·next hne=>rw[q_ hne]
    ·next hx=>rw[hx]
   unfold j182;rw[w_ hp,w_ hn]
 ·cases h
theorem v137{H:List (Int×Int)}(hc:Canon H){p q:w17}{cs:Int}(hcs:1≤cs)(hp:p.1=[])(ho:k58 p)(h:x46 H p=some q):∃e,q=([],(p.2.1,e))∧p.2.1<e∧e≤p.2.2∧toN H cs p.2.1 p.2.2=min e (p.2.1+cs)∧0≤p.2.1∧p.2.2≤4611686018427387904:=by
 rcases ho with⟨h1,_⟩|⟨_,h1,h2⟩;·exact absurd hp h1
 obtain⟨o1,o2,o3⟩:=(j19 p.2).1 h1;unfold x46 at h;rw[w_ hp]at h;unfold toN;rcases x71 hc p.2.1 with⟨hf,_⟩|⟨x,_,hf,hx,_,_,_⟩;·rw[hf]at h;cases h
 ·rw[hf]at h⊢;simp only at h⊢;split at h;·
   next hm=>injection h with h;exact⟨min p.2.2 x.2,h.symm,by omega,by omega,by rw[w_ hm],o1,o3⟩
  ·cases h
theorem j94{H:List (Int×Int)}{cs:Int}{p:w17}{r:List w17}(h:p.1≠[]):j182 H cs p r=some ((p.1.take cs.toNat,p.2),if p.1.length≤cs.toNat then r else(p.1.drop cs.toNat,p.2)::r):=by unfold j182;rw[q_ h]
theorem x57{H:List (Int×Int)}{cs n:Int}{p:w17}{r:List w17}(h:p.1=[])(hn:toN H cs p.2.1 p.2.2=n)(hne:n≠p.2.1):j182 H cs p r=some (([],(p.2.1,n)),if n=p.2.2 then r else([],(n,p.2.2))::r):=by unfold j182;rw[w_ h,hn,q_ hne]
theorem SpG.cell{α:Type}{en:α→List Value}{n:Nat}{w:World}{g off c:Nat}{L:List α}(h:SpG en n w (some ⟨g,off,none⟩) c L){k j:Nat}{v:Value}(hk:k<L.length)(hv:(en L[k])[j]?=some v):w.cell? ⟨g,off+k*n+j,none⟩=some v:=by obtain⟨b',off',e',hb',hcell⟩:=h.at' k hk;injection e' with e';injection e' with e1 e2 _;subst e1 e2;exact hcell j v hv
theorem SpG.of_nil{α:Type}{en:α→List Value}{n:Nat}{w:World}(a:Addr)(c:Nat):SpG en n w (some a) c ([]:List α):=⟨v_ _,(fun e=>by cases e),fun k hk=>absurd hk (Nat.not_lt_zero k)⟩
def z115:Array Value:=#[.string ⟨#[]⟩,.int .i64 0,.int .i64 0]
def ptV(p:w17):Value:=.agg #[.string ⟨p.1.toArray⟩,.int .i64 p.2.1,.int .i64 p.2.2]
def j159(S:List Nat)(bb:Nat)(H:List (Int×Int))(cs:Int)(L:List w17)(w:World)(e:Ending)(w':World):Prop:=(w43 H cs L=none→e=.returned (.tuple #[ptV ([],(0,0)),.bool false])∧Below w.heap.size w w')∧(∀p L',w43 H cs L=some (p,L')→e=.returned (.tuple #[ptV p,.bool true])∧BodyAt S w' bb L'∧Mut S w w')
theorem q75(S:List Nat)(bb:Nat)(L:List w17)(w:World)(h:BodyAt S w bb L)(hok:j29 L)(HA:Option Addr)(hc:Nat)(H:List (Int×Int))(hsp:Sp w HA hc H)(hcan:Canon H)(hl:H.length≤10000)(cs:Int)(hcs:1≤cs∧cs≤4611686018427387904):Calls Tryz.prog 84 #[.pointer (some ⟨bb,0,none⟩),.agg #[.slice HA H.length hc],.int .i64 cs] w (j159 S bb H cs L w):=by
 obtain⟨A,c,n,hn,sent,hb,hrow⟩:=h.blk;have HI:=a_ h.in_;have HB:=a_ hb;have HS:=a_ hsp;have HC:=a_ hcs;have HCN:=a_ hcan;have c0:w.cell? ⟨bb,0,none⟩=some (.slice A n c):=j14 hb rfl;have c1:w.cell? ⟨bb,1,none⟩=some (.int .i64 sent):=j14 hb rfl;have cz:=q14 hb;have hcs1:¬cs<1:=by omega
 cases L with
  |nil=>obtain rfl:n=0:=hn;clear h hb hsp hcs hcan hrow hok;go_enter Tryz.func84,Tryz.ntmps84;go_wp2_with fail;refine m_ (by simp[results,bU_,go_sem];try rfl) rfl ?_;exact⟨fun _=>⟨rfl,q11 (q11 (b_ _ _) _) _⟩,fun p L' h=>by cases h⟩
  |cons p r=>
   obtain⟨g,off,C,hA,hg,hgS⟩:=hrow.own (by simp);have hsr:=hrow.sp;rw[hA]at hsr c0 hb;subst hn;clear c0;have c0:w.cell? ⟨bb,0,none⟩=some (.slice (some ⟨g,off,none⟩) (r.length+1) c):=j14 hb rfl;obtain⟨hp,hop,hbr⟩:=hok;obtain⟨t,x1,x2⟩:=p;obtain⟨b',off',e',hb',hcell⟩:=hsr.at' 0 (by simp);injection e' with e';injection e' with e1 e2 _;subst e1 e2;have d0:w.cell? ⟨g,off,none⟩=some (.string ⟨t.toArray⟩):=by have:=hcell 0 _ rfl;simpa using this
   have d1:w.cell? ⟨g,off+1,none⟩=some (.int .i64 x1):=by have:=hcell 1 _ rfl;simpa using this
   have d2:w.cell? ⟨g,off+2,none⟩=some (.int .i64 x2):=by have:=hcell 2 _ rfl;simpa using this
   have HSR:=a_ hsr;have HG:=a_ hg;have HGS:=a_ hgS;have HPO:=a_ hp;have HBB:Hid (w.heap[bb]?=some (.cells #[.slice (some ⟨g,off,none⟩) (r.length+1) c,.int .i64 sent] 207 (0,0))):=by have h2:=HB.out;rw[hA]at h2;exact h2
   have hgb:g≠bb:=k36 hg HBB.out (by decide);have HGB:=a_ hgb;have HRD:=fun W h=>a_ (z149 t x1 x2 HA hc H W h hcan hl);clear h hb hsp hcs hcan hrow hA hsr hg hgS hp hop hbr hb' hcell hgb HB;have dz:=q14 HG.out;have hr0:¬((r.length:Int)+1=0):=by omega
   obtain⟨rd,hrd⟩:∃o,x46 H (t,(x1,x2))=o:=⟨_,rfl⟩;have HRE:=a_ hrd;rw[hrd]at HRD;clear hrd;go_enter Tryz.func84,Tryz.ntmps84;go_upto_region 3 with fail;obtain⟨W0,hW0,X0,X1,HB0⟩:=box2 w #[.slice HA H.length hc] 93 #[.string ⟨#[]⟩,.int .i64 0,.int .i64 0] 89;rw[hW0];clear hW0 c0 c1 d0 d1 d2 cz dz;have KB:Hid (W0.heap[bb]?=some (.cells #[.slice (some ⟨g,off,none⟩) (r.length+1) c,.int .i64 sent] 207 (0,0))):=j3 HB0.out HBB.out;have KG:=a_ (j3 HB0.out HG.out);have KR:=a_ (HSR.out.below HB0.out);have c0:W0.cell? ⟨bb,0,none⟩=some (.slice (some ⟨g,off,none⟩) (r.length+1) c):=j14 KB.out rfl;have hk0:(0:Int)<(r.length:Int)+1:=by omega
   have HD:Hid (W0.cell? ⟨bb,0,none⟩=some (.slice (some ⟨g,off,none⟩) (r.length+1) c)∧W0.cell? ⟨g,off,none⟩=some (.string ⟨t.toArray⟩)∧W0.cell? ⟨g,off+1,none⟩=some (.int .i64 x1)∧W0.cell? ⟨g,off+2,none⟩=some (.int .i64 x2)∧W0.cell? ⟨w.heap.size,0,none⟩=some (.slice HA H.length hc)):=⟨c0,by have:=KR.out.cell (k:=0) (j:=0) (v:=.string ⟨t.toArray⟩) (by simp) rfl;simpa using this,by have:=KR.out.cell (k:=0) (j:=1) (v:=.int .i64 x1) (by simp) rfl;simpa using this,by have:=KR.out.cell (k:=0) (j:=2) (v:=.int .i64 x2) (by simp) rfl;simpa using this,j14 X0.out rfl⟩;clear c0;obtain⟨tt,q1,q2,bv,hen,hn0,hs0⟩:∃(tt:List UInt8)(q1 q2:Int)(bv:Bool),encR rd=.tuple #[.agg #[.string ⟨tt.toArray⟩,.int .i64 q1,.int .i64 q2],.bool bv]∧(rd=none→tt=[]∧q1=0∧q2=0∧bv=false)∧(∀x,rd=some x→x=(tt,(q1,q2))∧bv=true):=by cases rd with|none=>exact⟨[],0,0,false,rfl,fun _=>⟨rfl,rfl,rfl,rfl⟩,(fun x h=>by cases h)⟩|some x=>exact⟨x.1,x.2.1,x.2.2,true,rfl,(fun h=>by cases h),(fun y h=>by injection h with h;subst h;exact⟨rfl,rfl⟩)⟩
   simp only[hen]at HRD;have HN0:=a_ hn0;have HS0:=a_ hs0;clear hen hn0 hs0;go_cut[8,9](fun s8 s9 wx=>∃pb:Nat,s8=.pointer (some ⟨pb,0,none⟩)∧s9=.bool bv∧W0.heap.size≤pb∧wx.heap[pb]?=some (.cells #[.string ⟨tt.toArray⟩,.int .i64 q1,.int .i64 q2] 89 (0,0))∧Below W0.heap.size W0 wx);case first=>
    go_region_held3(fun w'=>w'.cell? ⟨bb,0,none⟩=some (.slice (some ⟨g,off,none⟩) (r.length+1) c)∧w'.cell? ⟨g,off,none⟩=some (.string ⟨t.toArray⟩)∧w'.cell? ⟨g,off+1,none⟩=some (.int .i64 x1)∧w'.cell? ⟨g,off+2,none⟩=some (.int .i64 x2)∧w'.cell? ⟨w.heap.size,0,none⟩=some (.slice HA H.length hc))(((try dsimp only);refine⟨x16 (W:=W0) ?_ HD.out.1,x16 (W:=W0) ?_ HD.out.2.1,x16 (W:=W0) ?_ HD.out.2.2.1,x16 (W:=W0) ?_ HD.out.2.2.2.1,x16 (W:=W0) ?_ HD.out.2.2.2.2⟩<;>(repeat(first|exact b_ _ _|exact hbw|refine q15 ?_ _|refine x15 ?_|refine q11 ?_ _|refine w14 ?_ (by first|exact t_ _|omega|(dsimp only;omega)|(simp;omega)) _))))(first
     |(go_at_call 142;refine(HRD _ (HS.out.below (by repeat(first|exact HB0.out|refine x15 ?_|refine q11 ?_ _)))).out.mono ?_;rintro e w1⟨rfl,hb1⟩;have hbw:Below W0.heap.size W0 w1:=q12 hb1 (by repeat(first|exact b_ _ _|refine x15 ?_|refine q11 ?_ _));have ZB:Hid (w1.heap[W0.heap.size]?=some (.cells z115 89 (0,0))):=j3 hb1 (j17 (w:=W0.drew) rfl);have z0:w1.cell? ⟨W0.heap.size,0,none⟩=some (.string ⟨#[]⟩):=j14 ZB.out rfl;have z1:w1.cell? ⟨W0.heap.size,1,none⟩=some (.int .i64 0):=j14 ZB.out rfl;have z2:w1.cell? ⟨W0.heap.size,2,none⟩=some (.int .i64 0):=j14 ZB.out rfl;have zf0:=q13 (i:=0) ZB.out;have zf1:=q13 (i:=1) ZB.out;have zf2:=q13 (i:=2) ZB.out;have zz:=q14 ZB.out;clear hb1)
     |(go_at_call 142;refine(HRD _ (HS.out.below (by repeat(first|exact HB0.out|refine x15 ?_|refine q11 ?_ _)))).out.mono ?_;rintro e w1⟨rfl,hb1⟩;have hbw:Below W0.heap.size W0 w1:=q12 hb1 (by repeat(first|exact b_ _ _|refine x15 ?_|refine q11 ?_ _));clear hb1));all_goals go_wp2_with fail
    all_goals go_meet
    all_goals first|exact⟨_,rfl,rfl,hbw.size,j17 rfl,q11 hbw _⟩|exact⟨_,rfl,rfl,t_ _,j15 (j15 (j15 ZB.out)),w14 (w14 (w14 hbw (t_ _) _) (t_ _) _) (t_ _) _⟩
   case rest=>
    obtain⟨pb,rfl,rfl,hpb,hpk,hbx⟩:=hcut;rcases rd with _|⟨t',y1,y2⟩;·
     obtain⟨rfl,rfl,rfl,rfl⟩:=HN0.out rfl;clear HN0 HS0;have HPB:=a_ hpk;have KPB:=a_ hpb;have HB2:=a_ hbx;clear hpb hpk hbx;have HV:Hid (w43 H cs ((t,(x1,x2))::r)=none):=j137 HRE.out;have Z1:Hid (wc.heap[w.heap.size+1]?=some (.cells #[.string ⟨#[]⟩,.int .i64 0,.int .i64 0] 89 (0,0))):=j3 HB2.out X1.out;obtain⟨z0,z1,z2⟩:=bc3 Z1.out rfl rfl rfl;have zf0:=q13 (i:=0) Z1.out;have zf1:=q13 (i:=1) Z1.out;have zf2:=q13 (i:=2) Z1.out;have zz:=q14 Z1.out;go_wp2_with fail;obtain⟨W4,hW4⟩:∃W,((wc.setCell ⟨w.heap.size+1,0,none⟩ (.string ⟨#[]⟩)).setCell ⟨w.heap.size+1,1,none⟩ (.int .i64 0)).setCell ⟨w.heap.size+1,2,none⟩ (.int .i64 0)=W:=⟨_,rfl⟩;have X4:Hid (W4.heap[w.heap.size+1]?=some (.cells #[.string ⟨#[]⟩,.int .i64 0,.int .i64 0] 89 (0,0))):=by rw[←hW4];exact j15 (j15 (j15 Z1.out))
     have HB4:Hid (Below w.heap.size w W4):=by rw[←hW4];exact w14 (w14 (w14 (q12 HB2.out HB0.out) (B_ _) _) (B_ _) _) (B_ _) _
     rw[hW4];clear hW4 z0 z1 z2 zz zf0 zf1 zf2;obtain⟨z0,z1,z2⟩:=bc3 X4.out rfl rfl rfl;refine m_ (by simp[results,bU_,go_sem,z0,z1,z2];try rfl) rfl ?_;exact⟨fun _=>⟨rfl,HB4.out⟩,fun p L' h=>by rw[HV.out]at h;cases h⟩
    ·obtain⟨he,rfl⟩:=HS0.out _ rfl;injection he with e1 e2;injection e2 with e2 e3;subst e1 e2 e3;clear HN0 HS0;have HPB:=a_ hpk;have KPB:=a_ hpb;have HB2:=a_ hbx;clear hpb hpk hbx;have LB:Hid (wc.heap[bb]?=some (.cells #[.slice (some ⟨g,off,none⟩) (r.length+1) c,.int .i64 sent] 207 (0,0))):=j3 HB2.out KB.out;have LG:=a_ (j3 HB2.out KG.out);have LR:=a_ (KR.out.below HB2.out);have L1:Hid (wc.heap[w.heap.size+1]?=some (.cells #[.string ⟨#[]⟩,.int .i64 0,.int .i64 0] 89 (0,0))):=j3 HB2.out X1.out;have HL:=a_ (q12 HB2.out HB0.out);have HPG:Hid (g<pb):=by have h1:=q14 KG.out;have h2:=KPB.out;simp only[Hid];omega
     have HPB1:Hid (bb<pb):=by have h1:=q14 KB.out;have h2:=KPB.out;simp only[Hid];omega
     have HP1:Hid (w.heap.size+1<pb):=by have h1:=q14 X1.out;have h2:=KPB.out;simp only[Hid];omega
     have HGW:Hid (g<w.heap.size):=q14 HG.out;have HBW:Hid (bb<w.heap.size):=q14 HBB.out;clear HRD HS HD KB KG KR X0 X1 HB0 HB2 HSR HG HBB KPB;have c0:wc.cell? ⟨bb,0,none⟩=some (.slice (some ⟨g,off,none⟩) (r.length+1) c):=j14 LB.out rfl;obtain⟨p0,p1,p2⟩:=bc3 HPB.out rfl rfl rfl;have pz:=q14 HPB.out;by_cases ht:t=[];rotate_left;·
      have hrd:=HRE.out.symm.trans (q137 (H:=H) (p:=(t,(x1,x2))) ht);injection hrd with hrd;injection hrd with e1 e2;injection e2 with e2 e3;subst e1 e2 e3;have htx:=HPO.out.resolve_right (fun h=>ht h.1);have hx1:y1=0:=R_ Prod.fst htx.2;have hx2:y2=0:=R_ Prod.snd htx.2;subst hx1 hx2;have hte:t'.isEmpty=false:=bl_.2 ht;obtain⟨N,hN⟩:∃N:Nat,min t'.length cs.toNat=N:=⟨_,rfl⟩;have hcs:=HC.out;have htl:0<t'.length:=bf_.2 ht;have hmin:min (t'.length:Int) cs=(N:Int):=by omega
      have hN0:(0:Int)≤(N:Int):=by omega
      have hN1:(N:Int)≤(t'.length:Int):=by omega
      obtain⟨u,hu⟩:∃u,t'.take N=u:=⟨_,rfl⟩;obtain⟨v,hv⟩:∃v,t'.drop N=v:=⟨_,rfl⟩;have HV:Hid (w43 H cs ((t',(0,0))::r)=some ((u,(0,0)),if v=[]then r else(v,(0,0))::r)):=by
       simp only[Hid];refine(j94 (H:=H) (cs:=cs) (p:=(t',(0,0))) (r:=r) ht).trans ?_;simp only;have hc1:t'.take cs.toNat=u:=by rw[←hu,List.take_eq_take_iff];omega
       rw[hc1];by_cases hle:t'.length≤cs.toNat;·rw[w_ hle,w_ (by rw[←hv];exact bp_.2 (by omega))]
       ·have hne:cs.toNat=N:=by omega
        rw[q_ hle,q_ (by rw[←hv];intro e;have:=bp_.1 e;omega),hne,hv]
      have ex1:(⟨t'.toArray⟩:ByteArray).extract 0 N=⟨u.toArray⟩:=by rw[y62,←hu];simp
      have ex2:(⟨t'.toArray⟩:ByteArray).extract N t'.length=⟨v.toArray⟩:=by rw[y62,←hv,u_ (by simp)]
      have HCL:Hid (r.length+1≤c):=by have:=LR.out.le;simp only[g_]at this;exact this
      clear ht htx hu hv hN htl;go_upto_region 9 with fail;have d0:wc.cell? ⟨g,off,none⟩=some (.string ⟨t'.toArray⟩):=by have:=LR.out.cell (k:=0) (j:=0) (v:=.string ⟨t'.toArray⟩) (by simp) rfl;simpa using this
      have df0:wc.frozen? ⟨g,off,none⟩=false:=q13 LG.out;have pf0:=q13 (i:=0) HPB.out;have dz:=q14 LG.out;have hgp:¬g=pb:=by have:=HPG.out;omega
      have hpg:¬pb=g:=by have:=HPG.out;omega
      go_region;obtain⟨W5,hW5⟩:∃W,((wc.setCell ⟨pb,0,none⟩ (.string ⟨u.toArray⟩)).setCell ⟨g,off,none⟩ (.string ⟨v.toArray⟩)).drew=W:=⟨_,rfl⟩;have PB5:Hid (W5.heap[pb]?=some (.cells #[.string ⟨u.toArray⟩,.int .i64 0,.int .i64 0] 89 (0,0))):=by rw[←hW5];exact q18 (w15 hpg (j15 HPB.out))
      have LG5:Hid (W5.heap[g]?=some (.cells (C.setIfInBounds off (.string ⟨v.toArray⟩)) 89 (0,0))):=by rw[←hW5];exact q18 (j15 (w15 hgp LG.out))
      have LRp:SpG j18 3 (wc.setCell ⟨pb,0,none⟩ (.string ⟨u.toArray⟩)) (some ⟨g,off,none⟩) c ((t',(0,0))::r):=LR.out.mut (S:=[pb]) (fun _ a ha=>by injection ha with ha;rw[←ha];simpa using hgp) (Mut.set (p:=⟨pb,0,none⟩) (by simp) _ (Mut.refl _ _));have LR5:Hid (SpG j18 3 W5 (some ⟨g,off,none⟩) c ((v,(0,0))::r)):=by simp only[Hid];rw[←hW5];exact(w158 (w15 hgp LG.out) LRp).drew
      have hbp:bb≠pb:=by have:=HPB1.out;omega
      have hbg:bb≠g:=fun e=>HGB.out e.symm;have LB5:Hid (W5.heap[bb]?=some (.cells #[.slice (some ⟨g,off,none⟩) (r.length+1) c,.int .i64 sent] 207 (0,0))):=by rw[←hW5];exact q18 (w15 hbg (w15 hbp LB.out))
      have h1p:w.heap.size+1≠pb:=by have:=HP1.out;omega
      have h1g:w.heap.size+1≠g:=by have:=HGW.out;omega
      have L15:Hid (W5.heap[w.heap.size+1]?=some (.cells #[.string ⟨#[]⟩,.int .i64 0,.int .i64 0] 89 (0,0))):=by rw[←hW5];exact q18 (w15 h1g (w15 h1p L1.out))
      have M5:Hid (Mut [g,pb] wc W5):=by rw[←hW5];exact Mut.drew (Mut.set (p:=⟨g,off,none⟩) (by simp) _ (Mut.set (p:=⟨pb,0,none⟩) (by simp) _ (Mut.refl _ _)))
      rw[hW5];clear hW5 LRp c0 p0 p1 p2 pz d0 df0 pf0 dz hgp hpg hbp h1p h1g HPB LG LR LB L1 ex1 ex2 hmin;have c0:W5.cell? ⟨bb,0,none⟩=some (.slice (some ⟨g,off,none⟩) (r.length+1) c):=j14 LB5.out rfl;have c1:W5.cell? ⟨bb,1,none⟩=some (.int .i64 sent):=j14 LB5.out rfl;have cf1:W5.frozen? ⟨bb,1,none⟩=false:=q13 LB5.out;have cz:=q14 LB5.out;go_upto_region 11 with fail;obtain⟨sn,hsn⟩:∃x,wrap64 (sent+(N:Int))=x:=⟨_,rfl⟩;rw[hsn];obtain⟨W6,hW6⟩:∃W,W5.setCell ⟨bb,1,none⟩ (.int .i64 sn)=W:=⟨_,rfl⟩;have hpb:pb≠bb:=by have:=HPB1.out;omega
      have hgb:g≠bb:=HGB.out;have h1b:w.heap.size+1≠bb:=by have:=HBW.out;omega
      have LB6:Hid (W6.heap[bb]?=some (.cells #[.slice (some ⟨g,off,none⟩) (r.length+1) c,.int .i64 sn] 207 (0,0))):=by rw[←hW6];exact j15 LB5.out
      have PB6:Hid (W6.heap[pb]?=some (.cells #[.string ⟨u.toArray⟩,.int .i64 0,.int .i64 0] 89 (0,0))):=by rw[←hW6];exact w15 hpb PB5.out
      have M56:Mut [bb] W5 W6:=by rw[←hW6];exact Mut.set (p:=⟨bb,1,none⟩) (by simp) _ (Mut.refl _ _)
      have LG6:=a_ (M56.blk _ _ LG5.out (by simpa using hgb));have LR6:=a_ (LR5.out.mut (S:=[bb]) (fun _ a ha=>by injection ha with ha;rw[←ha];simpa using hgb) M56);have L16:=a_ (M56.blk _ _ L15.out (by simpa using h1b));have M6:Hid (Mut [g,pb,bb] wc W6):=(M5.out.mono (by simp)).trans (M56.mono (by simp));rw[hW6];clear hW6 M56 hsn c0 c1 cf1 cz LB5 PB5 LG5 LR5 L15 M5;have d0:W6.cell? ⟨g,off,none⟩=some (.string ⟨v.toArray⟩):=by have:=LR6.out.cell (k:=0) (j:=0) (v:=.string ⟨v.toArray⟩) (by simp) rfl;simpa using this
      have dz:=q14 LG6.out;cases hve:v.isEmpty with
       |true=>
        have HEV:Hid (v=[]):=aN_.1 hve;have c0:W6.cell? ⟨bb,0,none⟩=some (.slice (some ⟨g,off,none⟩) (r.length+1) c):=j14 LB6.out rfl;have cf0:W6.frozen? ⟨bb,0,none⟩=false:=q13 LB6.out;have cz:=q14 LB6.out;have hcl:(r.length:Int)+1≤(c:Int):=by have:=HCL.out;omega
        go_upto_region 13 with fail;obtain⟨A7,hA7⟩:∃A:Option Addr,(if c=1 then some (⟨g,off,none⟩:Addr)else some ⟨g,off+3,none⟩)=A:=⟨_,rfl⟩;rw[hA7];obtain⟨W7,hW7⟩:∃W,W6.setCell ⟨bb,0,none⟩ (.slice A7 r.length (c-1))=W:=⟨_,rfl⟩;have LB7:Hid (W7.heap[bb]?=some (.cells #[.slice A7 r.length (c-1),.int .i64 sn] 207 (0,0))):=by rw[←hW7];exact j15 LB6.out
        have M67:Mut [bb] W6 W7:=by rw[←hW7];exact Mut.set (p:=⟨bb,0,none⟩) (by simp) _ (Mut.refl _ _)
        have PB7:=a_ (M67.blk _ _ PB6.out (by simpa using hpb));have LG7:=a_ (M67.blk _ _ LG6.out (by simpa using hgb));have LR7:=a_ (LR6.out.mut (S:=[bb]) (fun _ a ha=>by injection ha with ha;rw[←ha];simpa using hgb) M67);have L17:=a_ (M67.blk _ _ L16.out (by simpa using h1b));have M7:Hid (Mut [g,pb,bb] wc W7):=M6.out.trans (M67.mono (by simp));have HA7:=a_ hA7;rw[hW7];clear LB6 PB6 LG6 LR6 L16 M6 d0 dz hve hW7 hA7 M67 c0 cf0 cz hcl;obtain⟨z0,z1,z2⟩:=bc3 L17.out rfl rfl rfl;have zf0:=q13 (i:=0) L17.out;have zf1:=q13 (i:=1) L17.out;have zf2:=q13 (i:=2) L17.out;have zz:=q14 L17.out;obtain⟨p0,p1,p2⟩:=bc3 PB7.out rfl rfl rfl;have pz:=q14 PB7.out;go_wp2_with fail;obtain⟨W8,hW8⟩:∃W,((W7.setCell ⟨w.heap.size+1,0,none⟩ (.string ⟨u.toArray⟩)).setCell ⟨w.heap.size+1,1,none⟩ (.int .i64 0)).setCell ⟨w.heap.size+1,2,none⟩ (.int .i64 0)=W:=⟨_,rfl⟩;have X8:Hid (W8.heap[w.heap.size+1]?=some (.cells #[.string ⟨u.toArray⟩,.int .i64 0,.int .i64 0] 89 (0,0))):=by rw[←hW8];exact j15 (j15 (j15 L17.out))
        have M8:Hid (Mut [w.heap.size+1] W7 W8):=by rw[←hW8];exact Mut.set (p:=⟨w.heap.size+1,2,none⟩) (by simp) _ (Mut.set (p:=⟨w.heap.size+1,1,none⟩) (by simp) _ (Mut.set (p:=⟨w.heap.size+1,0,none⟩) (by simp) _ (Mut.refl _ _)))
        rw[hW8];clear hW8 z0 z1 z2 zf0 zf1 zf2 zz p0 p1 p2 pz;obtain⟨z0,z1,z2⟩:=bc3 X8.out rfl rfl rfl;refine m_ (by simp[results,bU_,go_sem,z0,z1,z2];try rfl) rfl ?_;have hg1:g≠w.heap.size+1:=by have:=HGW.out;omega
        have hb1:bb≠w.heap.size+1:=by have:=HBW.out;omega
        have hp1:=HP1.out;have hm8:Mut [g,pb,bb,w.heap.size+1] wc W8:=(M7.out.mono (by simp)).trans (M8.out.mono (by simp));have hm:Mut S w W8:=(Mut.of_below HL.out).trans_new hm8 (fun k hk=>by
         simp only[C_,H_,au_]at hk;rcases hk with rfl|rfl|rfl|rfl;·exact .inl HGS.out
         ·exact .inr (by omega)
         ·exact .inl HI.out
         ·exact .inr (by omega));have hbk:=M8.out.blk _ _ LB7.out (by simpa using hb1);have hgk:=M8.out.blk _ _ LG7.out (by simpa using hg1);have hrk:=LR7.out.mut (S:=[w.heap.size+1]) (fun _ a ha=>by injection ha with ha;rw[←ha];simpa using hg1) M8.out;refine⟨fun h=>(by rw[HV.out]at h;cases h),fun p L' h=>?_⟩;rw[HV.out]at h;injection h with h;injection h with h1 h2;subst h1 h2;refine⟨rfl,⟨HI.out,?_⟩,hm⟩;rw[w_ HEV.out];refine⟨A7,c-1,_,rfl,_,hbk,?_⟩;by_cases hc1:c=1;·have hr:r=[]:=l_ (by have:=HCL.out;omega);have hA:=HA7.out;rw[w_ hc1]at hA;rw[hr,←hA];exact⟨SpG.of_nil _ _,fun h=>absurd h (by simp)⟩
        ·have hA:=HA7.out;rw[q_ hc1]at hA;rw[←hA];exact⟨q88 hrk,fun _=>⟨g,off+3,_,rfl,hgk,HGS.out⟩⟩
       |false=>
        have HEV:Hid (¬v=[]):=bl_.1 hve;go_upto_region 13 with fail;obtain⟨W7,hW7⟩:∃W,W6=W:=⟨_,rfl⟩;rw[hW7]at LB6 PB6 LG6 LR6 L16 M6⊢;have LB7:=LB6;have PB7:=PB6;have LG7:=LG6;have LR7:=LR6;have L17:=L16;have M7:=M6;clear LB6 PB6 LG6 LR6 L16 M6 d0 dz hve hW7;obtain⟨z0,z1,z2⟩:=bc3 L17.out rfl rfl rfl;have zf0:=q13 (i:=0) L17.out;have zf1:=q13 (i:=1) L17.out;have zf2:=q13 (i:=2) L17.out;have zz:=q14 L17.out;obtain⟨p0,p1,p2⟩:=bc3 PB7.out rfl rfl rfl;have pz:=q14 PB7.out;go_wp2_with fail;obtain⟨W8,hW8⟩:∃W,((W7.setCell ⟨w.heap.size+1,0,none⟩ (.string ⟨u.toArray⟩)).setCell ⟨w.heap.size+1,1,none⟩ (.int .i64 0)).setCell ⟨w.heap.size+1,2,none⟩ (.int .i64 0)=W:=⟨_,rfl⟩;have X8:Hid (W8.heap[w.heap.size+1]?=some (.cells #[.string ⟨u.toArray⟩,.int .i64 0,.int .i64 0] 89 (0,0))):=by rw[←hW8];exact j15 (j15 (j15 L17.out))
        have M8:Hid (Mut [w.heap.size+1] W7 W8):=by rw[←hW8];exact Mut.set (p:=⟨w.heap.size+1,2,none⟩) (by simp) _ (Mut.set (p:=⟨w.heap.size+1,1,none⟩) (by simp) _ (Mut.set (p:=⟨w.heap.size+1,0,none⟩) (by simp) _ (Mut.refl _ _)))
        rw[hW8];clear hW8 z0 z1 z2 zf0 zf1 zf2 zz p0 p1 p2 pz;obtain⟨z0,z1,z2⟩:=bc3 X8.out rfl rfl rfl;refine m_ (by simp[results,bU_,go_sem,z0,z1,z2];try rfl) rfl ?_;have hg1:g≠w.heap.size+1:=by have:=HGW.out;omega
        have hb1:bb≠w.heap.size+1:=by have:=HBW.out;omega
        have hp1:=HP1.out;have hm8:Mut [g,pb,bb,w.heap.size+1] wc W8:=(M7.out.mono (by simp)).trans (M8.out.mono (by simp));have hm:Mut S w W8:=(Mut.of_below HL.out).trans_new hm8 (fun k hk=>by
         simp only[C_,H_,au_]at hk;rcases hk with rfl|rfl|rfl|rfl;·exact .inl HGS.out
         ·exact .inr (by omega)
         ·exact .inl HI.out
         ·exact .inr (by omega));have hbk:=M8.out.blk _ _ LB7.out (by simpa using hb1);have hgk:=M8.out.blk _ _ LG7.out (by simpa using hg1);have hrk:=LR7.out.mut (S:=[w.heap.size+1]) (fun _ a ha=>by injection ha with ha;rw[←ha];simpa using hg1) M8.out;refine⟨fun h=>(by rw[HV.out]at h;cases h),fun p L' h=>?_⟩;rw[HV.out]at h;injection h with h;injection h with h1 h2;subst h1 h2;refine⟨rfl,⟨HI.out,?_⟩,hm⟩;rw[q_ HEV.out];exact⟨some ⟨g,off,none⟩,c,_,rfl,_,hbk,⟨hrk,fun _=>⟨g,off,_,rfl,hgk,HGS.out⟩⟩⟩
     ·subst ht;obtain⟨en,hen,he1,he2,hto,hx0,hx3⟩:=v137 HCN.out HC.out.1 (rfl:(([],(x1,x2)):w17).1=[]) HPO.out HRE.out;injection hen with e1 e2;injection e2 with e2 e3;subst e1 e2 e3;simp only at he1 he2 hto hx0 hx3;have hcs:=HC.out;obtain⟨n,hn⟩:∃n:Int,min (y2-y1) cs=n:=⟨_,rfl⟩;obtain⟨q,hq⟩:∃q:Int,y1+n=q:=⟨_,rfl⟩;have hw1:wrap64 (y2-y1)=y2-y1:=by unfold wrap64;omega
      have hw2:wrap64 (y1+n)=q:=by unfold wrap64;omega
      have HV:Hid (w43 H cs (([],(y1,x2))::r)=some (([],(y1,q)),if q=x2 then r else([],(q,x2))::r)):=x57 (p:=([],(y1,x2))) rfl (by rw[hto];omega) (by simp only;omega);have HCL:Hid (r.length+1≤c):=by have:=LR.out.le;simp only[g_]at this;exact this
      clear he1 he2 hto hx0 hx3 hq;go_upto_region 15 with fail;have pf2:=q13 (i:=2) HPB.out;have d1:wc.cell? ⟨g,off+1,none⟩=some (.int .i64 y1):=by have:=LR.out.cell (k:=0) (j:=1) (v:=.int .i64 y1) (by simp) rfl;simpa using this
      have df1:wc.frozen? ⟨g,off+1,none⟩=false:=q13 LG.out;have dz:=q14 LG.out;have hgp:¬g=pb:=by have:=HPG.out;omega
      have hpg:¬pb=g:=by have:=HPG.out;omega
      have hbp:bb≠pb:=by have:=HPB1.out;omega
      have hbg:bb≠g:=fun e=>HGB.out e.symm;have c1:wc.cell? ⟨bb,1,none⟩=some (.int .i64 sent):=j14 LB.out rfl;have cf1:wc.frozen? ⟨bb,1,none⟩=false:=q13 LB.out;have cz:=q14 LB.out;go_upto_region 18 with fail;obtain⟨sn,hsn⟩:∃x,wrap64 (sent+n)=x:=⟨_,rfl⟩;rw[hsn];obtain⟨W6,hW6⟩:∃W,((wc.setCell ⟨pb,2,none⟩ (.int .i64 q)).setCell ⟨g,off+1,none⟩ (.int .i64 q)).setCell ⟨bb,1,none⟩ (.int .i64 sn)=W:=⟨_,rfl⟩;have hpb:pb≠bb:=bj_ hbp;have hgb:g≠bb:=HGB.out;have h1b:w.heap.size+1≠bb:=by have:=HBW.out;omega
      have h1p:w.heap.size+1≠pb:=by have:=HP1.out;omega
      have h1g:w.heap.size+1≠g:=by have:=HGW.out;omega
      have PB6:Hid (W6.heap[pb]?=some (.cells #[.string ⟨#[]⟩,.int .i64 y1,.int .i64 q] 89 (0,0))):=by rw[←hW6];exact w15 hpb (w15 hpg (j15 HPB.out))
      have LG6:Hid (W6.heap[g]?=some (.cells (C.setIfInBounds (off+1) (.int .i64 q)) 89 (0,0))):=by rw[←hW6];exact w15 hgb (j15 (w15 hgp LG.out))
      have LRp:SpG j18 3 (wc.setCell ⟨pb,2,none⟩ (.int .i64 q)) (some ⟨g,off,none⟩) c (([],(y1,x2))::r):=LR.out.mut (S:=[pb]) (fun _ a ha=>by injection ha with ha;rw[←ha];simpa using hgp) (Mut.set (p:=⟨pb,2,none⟩) (by simp) _ (Mut.refl _ _));have LRq:=q159 (y:=q) (w15 (v:=.int .i64 q) (p:=⟨pb,2,none⟩) hgp LG.out) LRp;have LR6:Hid (SpG j18 3 W6 (some ⟨g,off,none⟩) c (([],(q,x2))::r)):=by rw[←hW6];exact LRq.mut (S:=[bb]) (fun _ a ha=>by injection ha with ha;rw[←ha];simpa using hgb) (Mut.set (p:=⟨bb,1,none⟩) (by simp) _ (Mut.refl _ _))
      have LB6:Hid (W6.heap[bb]?=some (.cells #[.slice (some ⟨g,off,none⟩) (r.length+1) c,.int .i64 sn] 207 (0,0))):=by rw[←hW6];exact j15 (w15 hbg (w15 hbp LB.out))
      have L16:Hid (W6.heap[w.heap.size+1]?=some (.cells #[.string ⟨#[]⟩,.int .i64 0,.int .i64 0] 89 (0,0))):=by rw[←hW6];exact w15 h1b (w15 h1g (w15 h1p L1.out))
      have M6:Hid (Mut [g,pb,bb] wc W6):=by rw[←hW6];exact Mut.set (p:=⟨bb,1,none⟩) (by simp) _ (Mut.set (p:=⟨g,off+1,none⟩) (by simp) _ (Mut.set (p:=⟨pb,2,none⟩) (by simp) _ (Mut.refl _ _)))
      rw[hW6];clear hW6 LRp LRq hsn c0 c1 cf1 cz LB HPB LG LR L1 p0 p1 p2 pz pf2 d1 df1 dz hgp hpg hbp hbg h1p h1g hw1 hw2;have d1:W6.cell? ⟨g,off+1,none⟩=some (.int .i64 q):=by have:=LR6.out.cell (k:=0) (j:=1) (v:=.int .i64 q) (by simp) rfl;simpa using this
      have d2:W6.cell? ⟨g,off+2,none⟩=some (.int .i64 x2):=by have:=LR6.out.cell (k:=0) (j:=2) (v:=.int .i64 x2) (by simp) rfl;simpa using this
      have dz:=q14 LG6.out;by_cases hqx:q=x2;·
       have hqe:(q==x2)=true:=by rw[aD_];exact hqx
       have HEV:=a_ hqx;clear hqx;go_quiet(fail);obtain⟨Wd,hWd⟩:∃W,W6.drewN nq=W:=⟨_,rfl⟩;have LBd:=a_ (j32 (n:=nq) LB6.out);have PBd:=a_ (j32 (n:=nq) PB6.out);have LGd:=a_ (j32 (n:=nq) LG6.out);have LRd:=a_ (LR6.out.below (q15 (b_ _ _) nq));have L1d:=a_ (j32 (n:=nq) L16.out);have Md:=a_ (M6.out.drewN nq);rw[hWd]at LBd PBd LGd LRd L1d Md⊢;clear hWd LB6 PB6 LG6 LR6 L16 M6 d1 d2 dz;have c0:Wd.cell? ⟨bb,0,none⟩=some (.slice (some ⟨g,off,none⟩) (r.length+1) c):=j14 LBd.out rfl;have cf0:Wd.frozen? ⟨bb,0,none⟩=false:=q13 LBd.out;have cz:=q14 LBd.out;have hcl:(r.length:Int)+1≤(c:Int):=by have:=HCL.out;omega
       go_upto_region 20 with fail;obtain⟨A7,hA7⟩:∃A:Option Addr,(if c=1 then some (⟨g,off,none⟩:Addr)else some ⟨g,off+3,none⟩)=A:=⟨_,rfl⟩;rw[hA7];obtain⟨W7,hW7⟩:∃W,Wd.setCell ⟨bb,0,none⟩ (.slice A7 r.length (c-1))=W:=⟨_,rfl⟩;have LB7:Hid (W7.heap[bb]?=some (.cells #[.slice A7 r.length (c-1),.int .i64 sn] 207 (0,0))):=by rw[←hW7];exact j15 LBd.out
       have M67:Mut [bb] Wd W7:=by rw[←hW7];exact Mut.set (p:=⟨bb,0,none⟩) (by simp) _ (Mut.refl _ _)
       have PB7:=a_ (M67.blk _ _ PBd.out (by simpa using hpb));have LG7:=a_ (M67.blk _ _ LGd.out (by simpa using hgb));have LR7:=a_ (LRd.out.mut (S:=[bb]) (fun _ a ha=>by injection ha with ha;rw[←ha];simpa using hgb) M67);have L17:=a_ (M67.blk _ _ L1d.out (by simpa using h1b));have M7:Hid (Mut [g,pb,bb] wc W7):=Md.out.trans (M67.mono (by simp));have HA7:=a_ hA7;rw[hW7];clear LBd PBd LGd LRd L1d Md hqe hW7 hA7 M67 c0 cf0 cz hcl;obtain⟨z0,z1,z2⟩:=bc3 L17.out rfl rfl rfl;have zf0:=q13 (i:=0) L17.out;have zf1:=q13 (i:=1) L17.out;have zf2:=q13 (i:=2) L17.out;have zz:=q14 L17.out;obtain⟨p0,p1,p2⟩:=bc3 PB7.out rfl rfl rfl;have pz:=q14 PB7.out;go_wp2_with fail;obtain⟨W8,hW8⟩:∃W,((W7.setCell ⟨w.heap.size+1,0,none⟩ (.string ⟨#[]⟩)).setCell ⟨w.heap.size+1,1,none⟩ (.int .i64 y1)).setCell ⟨w.heap.size+1,2,none⟩ (.int .i64 q)=W:=⟨_,rfl⟩;have X8:Hid (W8.heap[w.heap.size+1]?=some (.cells #[.string ⟨#[]⟩,.int .i64 y1,.int .i64 q] 89 (0,0))):=by rw[←hW8];exact j15 (j15 (j15 L17.out))
       have M8:Hid (Mut [w.heap.size+1] W7 W8):=by rw[←hW8];exact Mut.set (p:=⟨w.heap.size+1,2,none⟩) (by simp) _ (Mut.set (p:=⟨w.heap.size+1,1,none⟩) (by simp) _ (Mut.set (p:=⟨w.heap.size+1,0,none⟩) (by simp) _ (Mut.refl _ _)))
       rw[hW8];clear hW8 z0 z1 z2 zf0 zf1 zf2 zz p0 p1 p2 pz;obtain⟨z0,z1,z2⟩:=bc3 X8.out rfl rfl rfl;refine m_ (by simp[results,bU_,go_sem,z0,z1,z2];try rfl) rfl ?_;have hg1:g≠w.heap.size+1:=by have:=HGW.out;omega
       have hb1:bb≠w.heap.size+1:=by have:=HBW.out;omega
       have hp1:=HP1.out;have hm8:Mut [g,pb,bb,w.heap.size+1] wc W8:=(M7.out.mono (by simp)).trans (M8.out.mono (by simp));have hm:Mut S w W8:=(Mut.of_below HL.out).trans_new hm8 (fun k hk=>by
        simp only[C_,H_,au_]at hk;rcases hk with rfl|rfl|rfl|rfl;·exact .inl HGS.out
        ·exact .inr (by omega)
        ·exact .inl HI.out
        ·exact .inr (by omega));have hbk:=M8.out.blk _ _ LB7.out (by simpa using hb1);have hgk:=M8.out.blk _ _ LG7.out (by simpa using hg1);have hrk:=LR7.out.mut (S:=[w.heap.size+1]) (fun _ a ha=>by injection ha with ha;rw[←ha];simpa using hg1) M8.out;refine⟨fun h=>(by rw[HV.out]at h;cases h),fun p L' h=>?_⟩;rw[HV.out]at h;injection h with h;injection h with h1 h2;subst h1 h2;refine⟨rfl,⟨HI.out,?_⟩,hm⟩;rw[w_ HEV.out];refine⟨A7,c-1,_,rfl,_,hbk,?_⟩;by_cases hc1:c=1;·have hr:r=[]:=l_ (by have:=HCL.out;omega);have hA:=HA7.out;rw[w_ hc1]at hA;rw[hr,←hA];exact⟨SpG.of_nil _ _,fun h=>absurd h (by simp)⟩
       ·have hA:=HA7.out;rw[q_ hc1]at hA;rw[←hA];exact⟨q88 hrk,fun _=>⟨g,off+3,_,rfl,hgk,HGS.out⟩⟩
      ·have hqe:(q==x2)=false:=by rw[j_];exact hqx
       have HEV:=a_ hqx;clear hqx;go_quiet(fail);obtain⟨Wd,hWd⟩:∃W,W6.drewN nq=W:=⟨_,rfl⟩;have LBd:=a_ (j32 (n:=nq) LB6.out);have PBd:=a_ (j32 (n:=nq) PB6.out);have LGd:=a_ (j32 (n:=nq) LG6.out);have LRd:=a_ (LR6.out.below (q15 (b_ _ _) nq));have L1d:=a_ (j32 (n:=nq) L16.out);have Md:=a_ (M6.out.drewN nq);rw[hWd]at LBd PBd LGd LRd L1d Md⊢;clear hWd LB6 PB6 LG6 LR6 L16 M6 d1 d2 dz;go_upto_region 20 with fail;obtain⟨W7,hW7⟩:∃W,Wd=W:=⟨_,rfl⟩;rw[hW7]at LBd PBd LGd LRd L1d Md⊢;have LB7:=LBd;have PB7:=PBd;have LG7:=LGd;have LR7:=LRd;have L17:=L1d;have M7:=Md;clear LBd PBd LGd LRd L1d Md hqe hW7;obtain⟨z0,z1,z2⟩:=bc3 L17.out rfl rfl rfl;have zf0:=q13 (i:=0) L17.out;have zf1:=q13 (i:=1) L17.out;have zf2:=q13 (i:=2) L17.out;have zz:=q14 L17.out;obtain⟨p0,p1,p2⟩:=bc3 PB7.out rfl rfl rfl;have pz:=q14 PB7.out;go_wp2_with fail;obtain⟨W8,hW8⟩:∃W,((W7.setCell ⟨w.heap.size+1,0,none⟩ (.string ⟨#[]⟩)).setCell ⟨w.heap.size+1,1,none⟩ (.int .i64 y1)).setCell ⟨w.heap.size+1,2,none⟩ (.int .i64 q)=W:=⟨_,rfl⟩;have X8:Hid (W8.heap[w.heap.size+1]?=some (.cells #[.string ⟨#[]⟩,.int .i64 y1,.int .i64 q] 89 (0,0))):=by rw[←hW8];exact j15 (j15 (j15 L17.out))
       have M8:Hid (Mut [w.heap.size+1] W7 W8):=by rw[←hW8];exact Mut.set (p:=⟨w.heap.size+1,2,none⟩) (by simp) _ (Mut.set (p:=⟨w.heap.size+1,1,none⟩) (by simp) _ (Mut.set (p:=⟨w.heap.size+1,0,none⟩) (by simp) _ (Mut.refl _ _)))
       rw[hW8];clear hW8 z0 z1 z2 zf0 zf1 zf2 zz p0 p1 p2 pz;obtain⟨z0,z1,z2⟩:=bc3 X8.out rfl rfl rfl;refine m_ (by simp[results,bU_,go_sem,z0,z1,z2];try rfl) rfl ?_;have hg1:g≠w.heap.size+1:=by have:=HGW.out;omega
       have hb1:bb≠w.heap.size+1:=by have:=HBW.out;omega
       have hp1:=HP1.out;have hm8:Mut [g,pb,bb,w.heap.size+1] wc W8:=(M7.out.mono (by simp)).trans (M8.out.mono (by simp));have hm:Mut S w W8:=(Mut.of_below HL.out).trans_new hm8 (fun k hk=>by
        simp only[C_,H_,au_]at hk;rcases hk with rfl|rfl|rfl|rfl;·exact .inl HGS.out
        ·exact .inr (by omega)
        ·exact .inl HI.out
        ·exact .inr (by omega));have hbk:=M8.out.blk _ _ LB7.out (by simpa using hb1);have hgk:=M8.out.blk _ _ LG7.out (by simpa using hg1);have hrk:=LR7.out.mut (S:=[w.heap.size+1]) (fun _ a ha=>by injection ha with ha;rw[←ha];simpa using hg1) M8.out;refine⟨fun h=>(by rw[HV.out]at h;cases h),fun p L' h=>?_⟩;rw[HV.out]at h;injection h with h;injection h with h1 h2;subst h1 h2;refine⟨rfl,⟨HI.out,?_⟩,hm⟩;rw[q_ HEV.out];exact⟨some ⟨g,off,none⟩,c,_,rfl,_,hbk,⟨hrk,fun _=>⟨g,off,_,rfl,hgk,HGS.out⟩⟩⟩
theorem j88{W w':World}{S:List Nat}{b o:Nat}{v:Value}(hm:Mut S W w')(hn:b∉S)(h:W.cell? ⟨b,o,none⟩=some v):w'.cell? ⟨b,o,none⟩=some v:=by have hlt:=aI_ W ⟨b,o,none⟩ h;have hw:W.heap[b]?=some W.heap[b]:=ac_ hlt;rw[bN_ (w:=W) (w':=w') (a:=⟨b,o,none⟩) (by simp only;rw[hm.blk b _ hw hn,hw])];exact h
theorem BodyAt.alloc{S:List Nat}{w:World}{bb:Nat}{L:List w17}(h:BodyAt S w bb L)(o:Obj):BodyAt S (w.alloc o) bb L:=h.below (q11 (b_ _ _) _)
theorem BodyAt.mut{S T:List Nat}{w w':World}{bb:Nat}{L:List w17}(h:BodyAt T w bb L)(hT:∀k∈S,k∉T)(hm:Mut S w w'):BodyAt T w' bb L:=by
 obtain⟨A,c,n,hn,sent,h1,h2⟩:=h.blk;refine⟨h.in_,A,c,n,hn,sent,hm.blk _ _ h1 (fun hi=>hT _ hi h.in_),h2.sp.mut (fun h0 a ha hi=>?_) hm,fun hl=>?_⟩;·obtain⟨g,off,cs,e1,e2,e3⟩:=h2.own h0;rw[ha]at e1;injection e1 with e1;rw[e1]at hi;exact hT _ hi e3
 ·obtain⟨g,off,cs,e1,e2,e3⟩:=h2.own hl;exact⟨g,off,cs,e1,hm.blk _ _ e2 (fun hi=>hT _ hi e3),e3⟩
theorem BodyAt.mono{S T:List Nat}{w:World}{bb:Nat}{L:List w17}(h:BodyAt T w bb L)(hT:∀k∈T,k∈S):BodyAt S w bb L:=by
 obtain⟨A,c,n,hn,sent,h1,h2⟩:=h.blk;exact⟨hT _ h.in_,A,c,n,hn,sent,h1,h2.sp,fun hl=>by obtain⟨g,off,cs,e1,e2,e3⟩:=h2.own hl;exact⟨g,off,cs,e1,e2,hT _ e3⟩⟩
theorem BodyAt.small{S:List Nat}{w:World}{bb b:Nat}{L:List w17}{cs:Array Value}{f:Nat×Nat}(h:BodyAt S w bb L)(h0:L≠[])(hb:w.heap[b]?=some (.cells cs 145 f)):∃T,BodyAt T w bb L∧(∀k∈T,k∈S)∧b∉T:=by
 obtain⟨A,c,n,hn,sent,h1,h2⟩:=h.blk;obtain⟨g,off,cs',e1,e2,e3⟩:=h2.own (bf_.2 h0);refine⟨[bb,g],⟨by simp,A,c,n,hn,sent,h1,h2.sp,fun _=>⟨g,off,cs',e1,e2,by simp⟩⟩,?_,?_⟩;·
  intro k hk;simp only[C_,H_,au_]at hk;rcases hk with rfl|rfl;·exact h.in_
  ·exact e3
 ·have h3:=k36 h1 hb (by decide);have h4:=k36 e2 hb (by decide);simp[bj_ h3,bj_ h4]
theorem q115(HA:Option Addr)(hc:Nat)(H:List (Int×Int))(cs:Int)(w:World):Calls Tryz.prog 84 #[.pointer none,.agg #[.slice HA H.length hc],.int .i64 cs] w fun e w'=>e=.returned (.tuple #[.agg #[.string ⟨#[]⟩,.int .i64 0,.int .i64 0],.bool false])∧Below w.heap.size w w':=by go_enter Tryz.func84,Tryz.ntmps84;go_wp2_with fail;refine m_ (by simp[results,bU_,go_sem];try rfl) rfl ?_;exact⟨rfl,q11 (q11 (b_ _ _) _) _⟩
theorem v94(r:ReqC)(A:Option Addr)(c:Nat)(A1:Option Addr)(c1:Nat)(A2:Option Addr)(c2:Nat)(g:CfgL)(s:SesL)(en:Int)(bd:Value)(b:Nat)(HA:Option Addr)(hc:Nat)(H:List (Int×Int))(w:World)(hb:w.heap[b]?=some (.cells (sesC r A c A1 c1 A2 c2 g s en bd) 145 (0,0)))(hC:∀W,Below w.heap.size w W→Calls Tryz.prog 84 #[bd,.agg #[.slice HA H.length hc],.int .i64 g.j9] W fun e w'=>e=.returned (.tuple #[.agg #[.string ⟨#[]⟩,.int .i64 0,.int .i64 0],.bool false])∧Below W.heap.size W w'):Calls Tryz.prog 29 #[.pointer (some ⟨b,0,none⟩),.agg #[.slice HA H.length hc]] w fun e w'=>e=.returned (.tuple #[ptV ([],(0,0)),.bool false])∧Below w.heap.size w w':=by
 have HC:=a_ hC;have HB:=a_ hb;clear hC hb;go_enter Tryz.func29,Tryz.ntmps29;go_upto_region 1 with fail;obtain⟨W0,hW0,X0,X1,HB0⟩:=box2 w #[.slice HA H.length hc] 93 #[.string ⟨#[]⟩,.int .i64 0,.int .i64 0] 89;rw[hW0];clear hW0;have KB:Hid (W0.heap[b]?=some (.cells (sesC r A c A1 c1 A2 c2 g s en bd) 145 (0,0))):=j3 HB0.out HB.out;have HD:Hid (W0.cell? ⟨b,26,none⟩=some bd∧W0.cell? ⟨b,23,none⟩=some (.int .i64 g.j9)∧W0.cell? ⟨w.heap.size,0,none⟩=some (.slice HA H.length hc)):=⟨j14 KB.out rfl,j14 KB.out rfl,j14 X0.out rfl⟩;have kz:=q14 KB.out;have x0z:=q14 X0.out;go_cut[6,7](fun s6 s7 wx=>∃pb:Nat,s6=.pointer (some ⟨pb,0,none⟩)∧s7=.bool false∧W0.heap.size≤pb∧wx.heap[pb]?=some (.cells #[.string ⟨#[]⟩,.int .i64 0,.int .i64 0] 89 (0,0))∧Below W0.heap.size W0 wx);case first=>
  go_region_held3(fun w'=>w'.cell? ⟨b,26,none⟩=some bd∧w'.cell? ⟨b,23,none⟩=some (.int .i64 g.j9)∧w'.cell? ⟨w.heap.size,0,none⟩=some (.slice HA H.length hc))(((try dsimp only);refine⟨x16 (W:=W0) ?_ HD.out.1,x16 (W:=W0) ?_ HD.out.2.1,x16 (W:=W0) ?_ HD.out.2.2⟩<;>(repeat(first|exact b_ _ _|exact hbw|refine q15 ?_ _|refine x15 ?_|refine q11 ?_ _|refine w14 ?_ (by first|exact t_ _|omega|(dsimp only;omega)|(simp;omega)) _))))(first
   |(go_at_call 84;refine(HC.out _ (by repeat(first|exact HB0.out|refine x15 ?_|refine q11 ?_ _))).mono ?_;rintro e w1⟨rfl,hb1⟩;have hbw:Below W0.heap.size W0 w1:=q12 hb1 (by repeat(first|exact b_ _ _|refine x15 ?_|refine q11 ?_ _));have ZB:Hid (w1.heap[W0.heap.size]?=some (.cells #[.string ⟨#[]⟩,.int .i64 0,.int .i64 0] 89 (0,0))):=j3 hb1 (j17 (w:=W0.drew) rfl);have z0:w1.cell? ⟨W0.heap.size,0,none⟩=some (.string ⟨#[]⟩):=j14 ZB.out rfl;have z1:w1.cell? ⟨W0.heap.size,1,none⟩=some (.int .i64 0):=j14 ZB.out rfl;have z2:w1.cell? ⟨W0.heap.size,2,none⟩=some (.int .i64 0):=j14 ZB.out rfl;have zf0:=q13 (i:=0) ZB.out;have zf1:=q13 (i:=1) ZB.out;have zf2:=q13 (i:=2) ZB.out;have zz:=q14 ZB.out;clear hb1)
   |(go_at_call 84;refine(HC.out _ (by repeat(first|exact HB0.out|refine x15 ?_|refine q11 ?_ _))).mono ?_;rintro e w1⟨rfl,hb1⟩;have hbw:Below W0.heap.size W0 w1:=q12 hb1 (by repeat(first|exact b_ _ _|refine x15 ?_|refine q11 ?_ _));clear hb1));all_goals go_wp2_with fail
  all_goals go_meet
  all_goals first|exact⟨_,rfl,rfl,hbw.size,j17 rfl,q11 hbw _⟩|exact⟨_,rfl,rfl,t_ _,j15 (j15 (j15 ZB.out)),w14 (w14 (w14 hbw (t_ _) _) (t_ _) _) (t_ _) _⟩
 case rest=>
  obtain⟨pb,rfl,rfl,hpb,hpk,hbx⟩:=hcut;have HPB:=a_ hpk;have Z1:=a_ (j3 hbx X1.out);have HBX:=a_ (q12 hbx HB0.out);obtain⟨p0,p1,p2⟩:=bc3 HPB.out rfl rfl rfl;have pz:=q14 HPB.out;obtain⟨z0,z1,z2⟩:=bc3 Z1.out rfl rfl rfl;have zf0:=q13 (i:=0) Z1.out;have zf1:=q13 (i:=1) Z1.out;have zf2:=q13 (i:=2) Z1.out;have zz:=q14 Z1.out;clear hpk hbx hpb;go_wp2_with fail;obtain⟨W4,hW4⟩:∃W,((wc.setCell ⟨w.heap.size+1,0,none⟩ (.string ⟨#[]⟩)).setCell ⟨w.heap.size+1,1,none⟩ (.int .i64 0)).setCell ⟨w.heap.size+1,2,none⟩ (.int .i64 0)=W:=⟨_,rfl⟩;have X4:Hid (W4.heap[w.heap.size+1]?=some (.cells #[.string ⟨#[]⟩,.int .i64 0,.int .i64 0] 89 (0,0))):=by rw[←hW4];exact j15 (j15 (j15 Z1.out))
  have HB4:Hid (Below w.heap.size w W4):=by rw[←hW4];exact w14 (w14 (w14 HBX.out (B_ _) _) (B_ _) _) (B_ _) _
  rw[hW4];clear hW4 z0 z1 z2 zz zf0 zf1 zf2 p0 p1 p2 pz;obtain⟨z0,z1,z2⟩:=bc3 X4.out rfl rfl rfl;refine m_ (by simp[results,Tryz.results29,go_sem,z0,z1,z2];try rfl) rfl ?_;exact⟨rfl,HB4.out⟩
theorem k122(r:ReqC)(A:Option Addr)(c:Nat)(A1:Option Addr)(c1:Nat)(A2:Option Addr)(c2:Nat)(g:CfgL)(s:SesL)(en:Int)(bd:Value)(b:Nat)(HA:Option Addr)(hc:Nat)(H:List (Int×Int))(w:World)(hb:w.heap[b]?=some (.cells (sesC r A c A1 c1 A2 c2 g s en bd) 145 (0,0)))(bb:Nat)(hbd:bd=.pointer (some ⟨bb,0,none⟩))(T:List Nat)(hnb:b∉T)(hT:∀k∈T,k<w.heap.size)(hst:s.st=2)(S:List Nat)(hI:b∈S)(hL:∀k∈S,k<w.heap.size)(hTS:∀k∈T,k∈S)(hrq:ReqOwn S r w A c A1 c1 A2 c2)(hen:en=s.en)(p:w17)(L':List w17)(hok:j29 L')(hC:∀W,Below w.heap.size w W→Calls Tryz.prog 84 #[bd,.agg #[.slice HA H.length hc],.int .i64 g.j9] W fun e w'=>e=.returned (.tuple #[.agg #[.string ⟨p.1.toArray⟩,.int .i64 p.2.1,.int .i64 p.2.2],.bool true])∧BodyAt T w' bb L'∧Mut T W w'):Calls Tryz.prog 29 #[.pointer (some ⟨b,0,none⟩),.agg #[.slice HA H.length hc]] w fun e w'=>e=.returned (.tuple #[ptV p,.bool true])∧k35 r g S b (if L'=[]then{s with st:=3,en:=0,lf:=[],told:=true}else{s with lf:=L',told:=true}) w w':=by
 have HI:=a_ hI;have HL:=a_ hL;have HTS:=a_ hTS;have HR:=a_ hrq;have HEN:=a_ hen;have HOK:=a_ hok;clear hI hL hTS hrq hen hok;obtain⟨sn,hsn⟩:∃x,(if L'=[]then{s with st:=3,en:=0,lf:=[],told:=true}else{s with lf:=L',told:=true})=x:=⟨_,rfl⟩;rw[hsn];have HSN:=a_ hsn;clear hsn;have HC:=a_ hC;have HB:=a_ hb;have HST:=a_ hst;have HNB:=a_ hnb;have HT:=a_ hT;have HBD:=a_ hbd;have HNX:Hid (w.heap.size∉T):=fun hi=>by have:=hT _ hi;omega
 clear hC hb hst hnb hT hbd;go_enter Tryz.func29,Tryz.ntmps29;go_upto_region 1 with fail;obtain⟨W0,hW0,X0,X1,HB0⟩:=box2 w #[.slice HA H.length hc] 93 #[.string ⟨#[]⟩,.int .i64 0,.int .i64 0] 89;rw[hW0];clear hW0;have KB:Hid (W0.heap[b]?=some (.cells (sesC r A c A1 c1 A2 c2 g s en bd) 145 (0,0))):=j3 HB0.out HB.out;have HD:Hid (W0.cell? ⟨b,26,none⟩=some bd∧W0.cell? ⟨b,23,none⟩=some (.int .i64 g.j9)∧W0.cell? ⟨w.heap.size,0,none⟩=some (.slice HA H.length hc)):=⟨j14 KB.out rfl,j14 KB.out rfl,j14 X0.out rfl⟩;have kz:=q14 KB.out;have x0z:=q14 X0.out;have hs0:=HB0.out.size;have HNZ:Hid (W0.heap.size∉T):=fun hi=>by have:=HT.out _ hi;omega
 have HNW:Hid (∀k∈[W0.heap.size],k∉T):=fun k hk=>by rw[D_]at hk;rw[hk];exact HNZ.out
 go_cut[6,7](fun s6 s7 wx=>∃pb:Nat,s6=.pointer (some ⟨pb,0,none⟩)∧s7=.bool true∧W0.heap.size≤pb∧wx.heap[pb]?=some (.cells #[.string ⟨p.1.toArray⟩,.int .i64 p.2.1,.int .i64 p.2.2] 89 (0,0))∧BodyAt T wx bb L'∧Mut T W0 wx);case first=>
  go_region_held3(fun w'=>w'.cell? ⟨b,26,none⟩=some bd∧w'.cell? ⟨b,23,none⟩=some (.int .i64 g.j9)∧w'.cell? ⟨w.heap.size,0,none⟩=some (.slice HA H.length hc))(((try dsimp only);first|(refine⟨x16 (W:=W0) ?_ HD.out.1,x16 (W:=W0) ?_ HD.out.2.1,x16 (W:=W0) ?_ HD.out.2.2⟩<;>(repeat(first|exact b_ _ _|refine q15 ?_ _|refine x15 ?_|refine q11 ?_ _|refine w14 ?_ (by first|exact t_ _|omega|(dsimp only;omega)|(simp;omega)) _));done)|(refine⟨j88 (W:=W0) ?_ HNB.out HD.out.1,j88 (W:=W0) ?_ HNB.out HD.out.2.1,j88 (W:=W0) ?_ HNX.out HD.out.2.2⟩<;>(repeat(first|exact hmw|refine Mut.drew ?_|refine Mut.alloc ?_ _|refine Mut.set_new (by first|exact t_ _|omega|(dsimp only;omega)|(simp;omega)) _ ?_)))))(first
   |(go_at_call 84;refine(HC.out _ (by repeat(first|exact HB0.out|refine x15 ?_|refine q11 ?_ _))).mono ?_;rintro e w1⟨rfl,hq1,hb1⟩;have hmw:Mut T W0 w1:=(Mut.of_below (by repeat(first|exact b_ _ _|refine x15 ?_|refine q11 ?_ _))).trans hb1;have ZB:Hid (w1.heap[W0.heap.size]?=some (.cells #[.string ⟨#[]⟩,.int .i64 0,.int .i64 0] 89 (0,0))):=hb1.blk _ _ (j17 (w:=W0.drew) rfl) HNZ.out;have z0:w1.cell? ⟨W0.heap.size,0,none⟩=some (.string ⟨#[]⟩):=j14 ZB.out rfl;have z1:w1.cell? ⟨W0.heap.size,1,none⟩=some (.int .i64 0):=j14 ZB.out rfl;have z2:w1.cell? ⟨W0.heap.size,2,none⟩=some (.int .i64 0):=j14 ZB.out rfl;have zf0:=q13 (i:=0) ZB.out;have zf1:=q13 (i:=1) ZB.out;have zf2:=q13 (i:=2) ZB.out;have zz:=q14 ZB.out;clear hb1)
   |(go_at_call 84;refine(HC.out _ (by repeat(first|exact HB0.out|refine x15 ?_|refine q11 ?_ _))).mono ?_;rintro e w1⟨rfl,hq1,hb1⟩;have hmw:Mut T W0 w1:=(Mut.of_below (by repeat(first|exact b_ _ _|refine x15 ?_|refine q11 ?_ _))).trans hb1;clear hb1));all_goals go_wp2_with fail
  all_goals go_meet
  all_goals first|exact⟨_,rfl,rfl,hmw.size,j17 rfl,hq1.alloc _,hmw.alloc _⟩|exact⟨_,rfl,rfl,t_ _,j15 (j15 (j15 ZB.out)),hq1.mut (S:=[W0.heap.size]) HNW.out (Mut.set (p:=⟨W0.heap.size,2,none⟩) (by simp) _ (Mut.set (p:=⟨W0.heap.size,1,none⟩) (by simp) _ (Mut.set (p:=⟨W0.heap.size,0,none⟩) (by simp) _ (Mut.refl _ _)))),Mut.set_new (p:=⟨W0.heap.size,2,none⟩) (t_ _) _ (Mut.set_new (p:=⟨W0.heap.size,1,none⟩) (t_ _) _ (Mut.set_new (p:=⟨W0.heap.size,0,none⟩) (t_ _) _ hmw))⟩
 case rest=>
  obtain⟨pb,rfl,rfl,hpb,hpk,hbo,hmx⟩:=hcut;have hnb:=HNB.out;have hnx1:w.heap.size+1∉T:=fun hi=>by have:=HT.out _ hi;omega
  have KBc:=a_ (hmx.blk _ _ KB.out hnb);have X1c:=a_ (hmx.blk _ _ X1.out hnx1);have HPB:=a_ hpk;have HPO:=a_ hpb;have HBO:=a_ hbo;have HMX:=a_ hmx;have HBW:=a_ (q14 HB.out);have HX1:=a_ (q14 X1.out);clear hpb hpk hbo hmx hnb hnx1;have k28:wc.cell? ⟨b,28,none⟩=some (.bool s.told):=j14 KBc.out rfl;have kf28:wc.frozen? ⟨b,28,none⟩=false:=q13 KBc.out;have kz:=q14 KBc.out;go_upto_region 4 with fail;obtain⟨V1,hV1⟩:∃W,wc.setCell ⟨b,28,none⟩ (.bool true)=W:=⟨_,rfl⟩;have K1:Hid (V1.heap[b]?=some (.cells (sesC r A c A1 c1 A2 c2 g {s with told:=true} en bd) 145 (0,0))):=by rw[←hV1];exact j15 KBc.out
  have M1:Hid (Mut [b] wc V1):=by rw[←hV1];exact Mut.set (p:=⟨b,28,none⟩) (by simp) _ (Mut.refl _ _)
  rw[hV1];clear hV1 k28 kf28 kz;have HBO1:Hid (BodyAt T V1 bb L'):=HBO.out.mut (S:=[b]) (fun k hk=>by rw[D_]at hk;rw[hk];exact HNB.out) M1.out;obtain⟨bA,bc,bn,hbn,bsent,hbk,hprow⟩:=HBO1.out.blk;subst hbn;obtain⟨V2,bd2,h9,k9,m9,hbd2⟩:∃V2 bd2,(if L'.length=0 then(V1.setCell ⟨b,24,none⟩ (.int .i64 3)).setCell ⟨b,26,none⟩ (.pointer none)else V1)=V2∧V2.heap[b]?=some (.cells (sesC r A c A1 c1 A2 c2 g sn en bd2) 145 (0,0))∧Mut [b] V1 V2∧(L'=[]→bd2=.pointer none)∧(L'≠[]→bd2=bd):=by
   have hsn:=HSN.out;by_cases hp:L'=[];·rw[w_ hp]at hsn;subst hsn;exact⟨_,.pointer none,w_ (by rw[hp];rfl),j15 (j15 K1.out),Mut.set (p:=⟨b,26,none⟩) (by simp) _ (Mut.set (p:=⟨b,24,none⟩) (by simp) _ (Mut.refl _ _)),fun _=>rfl,fun h=>absurd hp h⟩
   ·rw[q_ hp]at hsn;subst hsn;exact⟨_,bd,q_ (fun h=>hp (l_ h)),K1.out,Mut.refl _ _,fun h=>absurd h hp,fun _=>rfl⟩
  have HE9:Hid (Calls Tryz.prog 83 #[.pointer (some ⟨b,0,none⟩)] V1 fun e w'=>e=.returned (.tuple #[])∧w'=V2):=by
   have e1:(sesC r A c A1 c1 A2 c2 g {s with told:=true} en bd)[24]?=some (.int .i64 s.st):=rfl;have e2:(sesC r A c A1 c1 A2 c2 g {s with told:=true} en bd)[26]?=some bd:=rfl;have e3:some (Value.int .i64 s.st)=some (.int .i64 2):=by rw[HST.out]
   have e4:some bd=some (.pointer (some ⟨bb,0,none⟩)):=by rw[HBD.out]
   have h:=q62 b bb _ bA bc L'.length bsent V1 K1.out (e1.trans e3) (e2.trans e4) hbk;rw[h9]at h;exact h
  have K2:=a_ k9;have M2:Hid (Mut [b] wc V2):=M1.out.trans m9;have HB2:=a_ hbd2;clear h9 k9 m9 hbk hprow HBO1 hbd2;have hpbb:pb≠b:=by have:=HPO.out;have:=HB0.out.size;have:=HBW.out;omega
  have hxb:w.heap.size+1≠b:=by have:=HBW.out;omega
  have PB2:=a_ (M2.out.blk _ _ HPB.out (by simpa using hpbb));have X12:=a_ (M2.out.blk _ _ X1c.out (by simpa using hxb));go_upto_region 5 with(go_at_call 83;refine HE9.out.mono ?_;rintro e v2⟨rfl,hv2⟩;obtain rfl:V2=v2:=hv2.symm);have p0:=j14 (i:=0) PB2.out rfl;have p1:=j14 (i:=1) PB2.out rfl;have p2:=j14 (i:=2) PB2.out rfl;have pz:=q14 PB2.out;have z0:=j14 (i:=0) X12.out rfl;have z1:=j14 (i:=1) X12.out rfl;have z2:=j14 (i:=2) X12.out rfl;have zf0:=q13 (i:=0) X12.out;have zf1:=q13 (i:=1) X12.out;have zf2:=q13 (i:=2) X12.out;have zz:=q14 X12.out;go_wp2_with fail;obtain⟨W4,hW4⟩:∃W,((V2.setCell ⟨w.heap.size+1,0,none⟩ (.string ⟨p.1.toArray⟩)).setCell ⟨w.heap.size+1,1,none⟩ (.int .i64 p.2.1)).setCell ⟨w.heap.size+1,2,none⟩ (.int .i64 p.2.2)=W:=⟨_,rfl⟩;have X4:Hid (W4.heap[w.heap.size+1]?=some (.cells #[.string ⟨p.1.toArray⟩,.int .i64 p.2.1,.int .i64 p.2.2] 89 (0,0))):=by rw[←hW4];exact j15 (j15 (j15 X12.out))
  have M4:Hid (Mut [w.heap.size+1] V2 W4):=by rw[←hW4];exact Mut.set (p:=⟨w.heap.size+1,2,none⟩) (by simp) _ (Mut.set (p:=⟨w.heap.size+1,1,none⟩) (by simp) _ (Mut.set (p:=⟨w.heap.size+1,0,none⟩) (by simp) _ (Mut.refl _ _)))
  rw[hW4];clear hW4 z0 z1 z2 zz zf0 zf1 zf2 p0 p1 p2 pz;have z0:=j14 (i:=0) X4.out rfl;have z1:=j14 (i:=1) X4.out rfl;have z2:=j14 (i:=2) X4.out rfl;refine m_ (by simp[results,Tryz.results29,go_sem,z0,z1,z2];try rfl) rfl ?_;have hk4:=M4.out.blk _ _ K2.out (by simpa using bj_ hxb);have hm24:Mut [b,w.heap.size+1] wc W4:=(M2.out.mono (by simp)).trans (M4.out.mono (by simp));have hm:Mut S w W4:=((Mut.of_below HB0.out).trans (HMX.out.mono HTS.out)).trans_new hm24 (fun k hk=>by
   simp only[C_,H_,au_]at hk;rcases hk with rfl|rfl;·exact .inl HI.out
   ·exact .inr (by omega));have hbo:BodyAt T W4 bb L':=HBO.out.mut (fun k hk hi=>by
   simp only[C_,H_,au_]at hk;rcases hk with rfl|rfl;·exact HNB.out hi
   ·have:=HT.out _ hi;omega) hm24;refine⟨rfl,?_⟩;have hsn:=HSN.out;have hlt:∀k∈S,k<W4.heap.size:=fun k hk=>G_ (HL.out k hk) hm.size;by_cases hp:L'=[];·rw[w_ hp]at hsn;rw[HB2.out.1 hp]at hk4;subst hsn;exact j28 ⟨HI.out,hlt,A,c,A1,c1,A2,c2,_,_,hk4,HR.out.mut hm,fun hst=>absurd hst (by simp),fun _=>⟨rfl,rfl⟩⟩ hm
  ·rw[q_ hp]at hsn;rw[HB2.out.2 hp]at hk4;subst hsn;exact j28 ⟨HI.out,hlt,A,c,A1,c1,A2,c2,_,_,hk4,HR.out.mut hm,fun _=>⟨HEN.out,hp,HOK.out,bb,HBD.out,hbo.mono HTS.out⟩,fun hst=>absurd HST.out hst⟩ hm
def v98(r:ReqC)(g:CfgL)(S:List Nat)(b:Nat)(s:SesL)(H:List (Int×Int))(w:World)(e:Ending)(w':World):Prop:=(s.nextS H g.j9=none→e=.returned (.tuple #[ptV ([],(0,0)),.bool false])∧k35 r g S b s w w')∧(∀p s',s.nextS H g.j9=some (p,s')→e=.returned (.tuple #[ptV p,.bool true])∧k35 r g S b s' w w')
theorem k62(r:ReqC)(g:CfgL)(S:List Nat)(b:Nat)(s:SesL)(w:World)(h:SesAt r g S w b s)(HA:Option Addr)(hc:Nat)(H:List (Int×Int))(hsp:Sp w HA hc H)(hcan:Canon H)(hl:H.length≤10000)(hcs:1≤g.j9∧g.j9≤4611686018427387904):Calls Tryz.prog 29 #[.pointer (some ⟨b,0,none⟩),.agg #[.slice HA H.length hc]] w (v98 r g S b s H w):=by
 obtain⟨A,c,A1,c1,A2,c2,en,bd,hb,hrq,hT,hN⟩:=h.blk;by_cases hst:s.st=2;rotate_left;·obtain⟨rfl,hen⟩:=hN hst;refine(v94 r A c A1 c1 A2 c2 g s en _ b HA hc H w hb (fun W _=>q115 HA hc H g.j9 W)).mono ?_;rintro e w'⟨rfl,hbw⟩;have hv:s.nextS H g.j9=none:=q_ hst;exact⟨fun _=>⟨rfl,j28 (h.alloc hbw) (Mut.of_below hbw)⟩,fun p s' h=>by rw[hv]at h;cases h⟩
 obtain⟨hen,hne,hok,bb,hbd,hbo⟩:=hT hst;obtain⟨T,ht1,ht2,ht3⟩:=hbo.small hne hb;subst hbd;have hv:s.nextS H g.j9=(w43 H g.j9 s.lf).map fun x=>(x.1,if x.2=[]then{s with st:=3,en:=0,lf:=[],told:=true}else{s with lf:=x.2,told:=true}):=w_ hst;cases ht:w43 H g.j9 s.lf with
  |none=>rw[ht]at hv;refine(v94 r A c A1 c1 A2 c2 g s en _ b HA hc H w hb (fun W hW=>(q75 T bb s.lf W (ht1.below hW) hok HA hc H (hsp.below hW) hcan hl g.j9 hcs).mono fun e w' h=>h.1 ht)).mono ?_;rintro e w'⟨rfl,hbw⟩;exact⟨fun _=>⟨rfl,j28 (h.alloc hbw) (Mut.of_below hbw)⟩,fun p s' h=>by rw[hv]at h;cases h⟩
  |some x=>obtain⟨p,L'⟩:=x;rw[ht]at hv;have hok':=(j126 hcan hcs.1 hok ht).1;refine(k122 r A c A1 c1 A2 c2 g s en _ b HA hc H w hb bb rfl T ht3 (fun k hk=>h.lt k (ht2 k hk)) hst S h.in_ h.lt ht2 hrq hen p L' hok' (fun W hW=>(q75 T bb s.lf W (ht1.below hW) hok HA hc H (hsp.below hW) hcan hl g.j9 hcs).mono fun e w' h=>h.2 p L' ht)).mono ?_;rintro e w'⟨rfl,hpost⟩;refine⟨fun h=>(by rw[hv]at h;cases h),fun q s' h=>?_⟩;rw[hv]at h;simp only[Option.map_some,Option.some.injEq,Prod.mk.injEq]at h;obtain⟨rfl,rfl⟩:=h;exact⟨rfl,hpost⟩
theorem j183:(Tryz.prog.info? 50).map (·.size)=some 27:=by kernel_rfl
def j115:Array Value:=#[.int .u8 0,.int .i64 0,.string ⟨#[]⟩,.string ⟨#[]⟩,.bool false,.int .i64 0,.int .i64 0,.int .i64 0,.int .i64 0,.int .i64 0,.int .i64 0,.slice none 0 0,.string ⟨#[]⟩,.bool false,.int .i64 0,.int .i64 0,.int .i64 0,.bool false,.int .i64 0,.int .i64 0,.int .i64 0,.int .i64 0,.slice none 0 0,.slice none 0 0,.bool false,.bool false,.bool false]
theorem v115(ρ:Operand→Value)(w:World)(o:Oper)(ho:o.op=.alloc 50):(execOp ρ o).run Tryz.prog w=.ok (.value (.pointer (some ⟨w.heap.size,0,none⟩))) (w.alloc (.cells j115 50)):=by unfold execOp;rw[ho];unfold j115;go_simp
theorem q50{ops:Array Oper}{rest:List Oper}{op:Oper}{a:Act}{w:World}{Q:Exit→Act→World→Prop}(hgd:op.guard=none)(ho:op.op=.alloc 50)(h:wpList Tryz.prog ops Q rest (a.put op.dst (.pointer (some ⟨w.heap.size,0,none⟩))) (w.alloc (.cells j115 50))):wpList Tryz.prog ops Q (op::rest) a w:=wpList_plain hgd fun _ hK=>by unfold Oper.wp;rw[v115 a.eval w op ho,bW_];exact hK _ _ h
theorem k137(ρ:Operand→Value)(w:World)(o:Oper)(x i:Operand)(ho:o.op=.indexAddr 34 x i)(b off n c k:Nat)(hx:ρ x=.slice (some ⟨b,off,none⟩) n c)(hi:ρ i=.int .i64 (k:Int))(hk:k<n):(execOp ρ o).run Tryz.prog w=.ok (.value (.pointer (some ⟨b,off+k*27,none⟩))) w:=by
 have hk0:(0:Int)≤(k:Int):=by omega
 have hk1:(k:Int)<(n:Int):=by omega
 unfold execOp;rw[ho];simp only[hx,hi];go_simp
theorem y55{ops:Array Oper}{rest:List Oper}{op:Oper}{a:Act}{w:World}{Q:Exit→Act→World→Prop}(hgd:op.guard=none)(x i:Operand)(ho:op.op=.indexAddr 34 x i)(b off n c k:Nat)(hx:a.eval x=.slice (some ⟨b,off,none⟩) n c)(hi:a.eval i=.int .i64 (k:Int))(hk:k<n)(h:wpList Tryz.prog ops Q rest (a.put op.dst (.pointer (some ⟨b,off+k*27,none⟩))) w):wpList Tryz.prog ops Q (op::rest) a w:=wpList_plain hgd fun _ hK=>by unfold Oper.wp;rw[k137 a.eval w op x i ho b off n c k hx hi hk,bW_];exact hK _ _ h
theorem j75{α:Type}{en:α→List Value}{n:Nat}{w:World}{b off c:Nat}{L:List α}(h:SpG en n w (some ⟨b,off,none⟩) c L){k:Nat}(hk:k<L.length):w.rangeAt b (off+k*n) (en L[k]):=fun j v hv=>h.cell hk hv
theorem k115(tg:List UInt8)(wk:Bool)(mo ln hv fr wh er:Int)(ks:List (List UInt8))(tn:List UInt8)(kp:Bool)(KA:Option Addr)(kc:Nat)(w:World)(h:SpG encT 1 w KA kc ks):Calls Tryz.prog 15 #[.agg #[.string ⟨tg.toArray⟩,.bool wk,.int .i64 mo,.int .i64 ln,.int .i64 hv,.int .i64 fr,.int .i64 wh,.int .i64 er,.slice KA ks.length kc,.string ⟨tn.toArray⟩,.bool kp]] w (w51 (j46 ⟨tg,wk,mo,ln,hv,fr,wh,er,ks,tn,kp⟩) w):=k133 ⟨tg,wk,mo,ln,hv,fr,wh,er,ks,tn,kp⟩ KA kc w h
structure SmallC(r:ReqC)(g:CfgL)(L:List OpX):Prop where
 r:FewR r
 l:L.length≤20
 ch:g.j9≤200
 o:∀x∈L,q43 x
theorem x137{L:List OpX}{k:Nat}(hk:k<L.length)(h:∀x∈L.take k,q43 x)(h2:q43 L[k]):∀x∈L.take (k+1),q43 x:=by
 rw[n_ hk];intro x hx;rcases A_.1 hx with hx|hx;·exact h x hx
 ·rw[D_]at hx;rw[hx];exact h2
theorem k83(r:ReqC)(A:Option Addr)(c:Nat)(A1:Option Addr)(c1:Nat)(A2:Option Addr)(c2:Nat)(a1 a2 a3:Int)(g:CfgL)(LA:Option Addr)(lc:Nat)(L:List OpX)(w:World)(h:ReqAt r w A c A1 c1 A2 c2)(hrt:r.k.rt.length≤4611686018427387904)(hL:SpG w19 27 w LA lc L)(hll:L.length≤9223372036854775807)(ho:∀o∈L,OpAt w o):Calls Tryz.prog 5 #[.agg (k57 r A c A1 c1 A2 c2 a1 a2 a3 g LA L.length lc)] w (w51 (SmallC r g L) w):=by
 have HF:=fun W h=>a_ (w148 r A c A1 c1 A2 c2 W h hrt);have HS:=a_ h;have HL:=a_ hL;have HO:=a_ ho;clear h hrt hL ho;unfold k57;unfold reqC at HF;go_enter Tryz.func5,Tryz.ntmps5;go_upto_region 1 with fail;obtain⟨W0,hW0,X0,HB0⟩:=box1 w #[.bool r.hd,.string ⟨r.ob.toArray⟩,.slice A r.L.length c,.slice A1 r.k.M.length c1,.slice A2 r.k.N.length c2,.bool r.k.am,.bool r.k.an,.int .i64 r.k.si,.int .i64 r.k.un,.string ⟨r.k.rt.toArray⟩,.bool r.k.rw,.int .i64 a1,.int .i64 a2,.int .i64 a3,.int .i64 g.j0,.int .i64 g.j1,.int .i64 g.j2,.int .i64 g.cs,.int .i64 g.j4,.int .i64 g.j5,.int .i64 g.j6,.int .i64 g.j7,.int .i64 g.j8,.int .i64 g.j9,.slice LA L.length lc] 36;rw[hW0];clear hW0;obtain⟨v0,v1,v2,v3,v4,v5,v6,v7,v8,v9,v10,_⟩:=bc25 X0.out;have vz:=q14 X0.out;go_wp2_with fail;refine(HF _ (HS.out.below HB0.out)).out.mono ?_;rintro e w1⟨b,rfl,hq,hb1⟩;have HB1:=a_ (q12 hb1 HB0.out);cases b with
  |false=>clear hq hb1;go_wp2_with fail;go_ret;exact j181 HB1.out
  |true=>
   have HFR:=a_ (hq rfl);have X1:=a_ (j3 hb1 X0.out);clear hq hb1 v0 v1 v2 v3 v4 v5 v6 v7 v8 v9 v10 vz X0 HB0;have v23:=bc 23 X1.out rfl;have v24:=bc 24 X1.out rfl;have vz:=q14 X1.out;by_cases h20:L.length≤20;rotate_left;·
    have h20':(20:Int)<(L.length:Int):=by omega
    go_wp2_with fail;go_ret;exact j181 HB1.out
   have h20':¬(20:Int)<(L.length:Int):=by omega
   by_cases h200:g.j9≤200;rotate_left;·
    have h200':(200:Int)<g.j9:=by omega
    go_wp2_with fail;go_ret;exact j181 HB1.out
   have h200':¬(200:Int)<g.j9:=by omega
   have H20:=a_ h20;have H200:=a_ h200;clear h20 h200;go_wp2_with fail;go_loopw[4,24](fun _ i wr=>∃k:Nat,k≤L.length∧i=.int .i64 (k:Int)∧(∀x∈L.take k,q43 x)∧Below w1.heap.size w1 wr)(fun _ i _=>L.length-(intOf i).toNat);case atStart=>exact⟨0,v_ _,rfl,(fun x hx=>by simp at hx),b_ _ _⟩
   case round=>
    obtain⟨k,hk,rfl,hall,hbw⟩:=hrel;have HAL:=a_ hall;have HBL:=a_ hbw;clear hall hbw;by_cases hlt:k<L.length;·
     obtain⟨b,off,e,hb,hc⟩:=((HL.out.below HB1.out).below HBL.out).at' k hlt;subst e;have HRG:=a_ (j75 ((HL.out.below HB1.out).below HBL.out) hlt);have HOP:=a_ (((HO.out _ (y_ hlt)).below HB1.out).below HBL.out);have HST:=a_ (x137 hlt HAL.out);obtain⟨op,hop⟩:∃o,L[k]=o:=⟨_,rfl⟩;rw[hop]at HOP HST HRG;clear hop hc hb;have HLT:=a_ hlt;go_upto_region 5 with fail;refine aw_ ?_;refine y55 rfl (.tmp 22) (.tmp 24) rfl b off L.length lc k rfl rfl HLT.out ?_;simp only[Act.put,d_,h_,f_];refine wpList_load_mid rfl 50 (.tmp 26) rfl b (off+k*27) rfl (w19 op) _ HRG.out bv_ rfl j183 ?_;simp only[Act.put,d_,h_,f_];refine q50 rfl rfl ?_;simp only[Act.put,d_,h_,f_];refine q20 rfl 50 (.tmp 4) (.tmp 27) rfl rfl rfl (j17 rfl) rfl j183 (by simp[w19,Value.oneCell']) ?_;intro w5 hst;simp only[Act.put];obtain⟨kd,id,ob,⟨tg,wk,mo,ln,hv,fr,wh,er,ks,tn,kp⟩,KA,kc,y1,y2,y3,tu,b1,b2,b3,nn,HA,jc,HH,FA,fc,FF,tr,fa,jo⟩:=op;have HOB:Hid (w5.heap[wr.heap.size]?=some (.cells #[.int .u8 kd,.int .i64 id,.string ⟨ob.toArray⟩,.string ⟨tg.toArray⟩,.bool wk,.int .i64 mo,.int .i64 ln,.int .i64 hv,.int .i64 fr,.int .i64 wh,.int .i64 er,.slice KA ks.length kc,.string ⟨tn.toArray⟩,.bool kp,.int .i64 y1,.int .i64 y2,.int .i64 y3,.bool tu,.int .i64 b1,.int .i64 b2,.int .i64 b3,.int .i64 nn,.slice HA HH.length jc,.slice FA FF.length fc,.bool tr,.bool fa,.bool jo] 50 (0,0))):=hst.blk;have HB5:Hid (Below wr.heap.size wr w5):=hst.bel wr (q11 (b_ _ _) _) (t_ _);clear hst HRG;have o2:=bc 2 HOB.out rfl;have o3:=bc 3 HOB.out rfl;have o4:=bc 4 HOB.out rfl;have o5:=bc 5 HOB.out rfl;have o6:=bc 6 HOB.out rfl;have o7:=bc 7 HOB.out rfl;have o8:=bc 8 HOB.out rfl;have o9:=bc 9 HOB.out rfl;have o10:=bc 10 HOB.out rfl;have o11:=bc 11 HOB.out rfl;have o12:=bc 12 HOB.out rfl;have o13:=bc 13 HOB.out rfl;have o22:=bc 22 HOB.out rfl;have o23:=bc 23 HOB.out rfl;have oz:=q14 HOB.out;have HK:Hid (SpG encT 1 w5 KA kc ks):=HOP.out.k.below HB5.out;have hsz:(⟨ob.toArray⟩:ByteArray).size=ob.length:=q19 ob;go_wp2_with fail;refine(k115 tg wk mo ln hv fr wh er ks tn kp KA kc _ HK.out).mono ?_;rintro e w6⟨bs,rfl,hqs,hb6⟩;have HB6:=a_ (q12 hb6 HB5.out);have HOB6:=a_ (j3 hb6 HOB.out);clear hb6 o2 o3 o4 o5 o6 o7 o8 o9 o10 o11 o12 o13 o22 o23 oz HOB;cases bs with
      |false=>clear hqs;go_wp2_with fail;go_ret;exact j181 (q12 (q12 HB6.out HBL.out) HB1.out)
      |true=>
       have HQS:=a_ (hqs rfl);clear hqs;have o2:=bc 2 HOB6.out rfl;have o22:=bc 22 HOB6.out rfl;have o23:=bc 23 HOB6.out rfl;have oz:=q14 HOB6.out;by_cases g1:ob.length≤100;rotate_left;·
        have g1':(100:Int)<(ob.length:Int):=by omega
        go_wp2_with fail;go_ret;exact j181 (q12 (q12 HB6.out HBL.out) HB1.out)
       have g1':¬(100:Int)<(ob.length:Int):=by omega
       by_cases g2:HH.length≤8;rotate_left;·
        have g2':(8:Int)<(HH.length:Int):=by omega
        go_wp2_with fail;go_ret;exact j181 (q12 (q12 HB6.out HBL.out) HB1.out)
       have g2':¬(8:Int)<(HH.length:Int):=by omega
       by_cases g3:FF.length≤8;rotate_left;·
        have g3':(8:Int)<(FF.length:Int):=by omega
        go_wp2_with fail;go_ret;exact j181 (q12 (q12 HB6.out HBL.out) HB1.out)
       have g3':¬(8:Int)<(FF.length:Int):=by omega
       have HS2:=a_ (HST.out ⟨HQS.out,g1,g2,g3⟩);clear g1 g2 g3;go_wp2_with fail;go_roundw;case rel=>exact⟨k+1,by have:=HLT.out;omega,by go_num,HS2.out,q12 HB6.out HBL.out⟩
       case measure=>simp[intOf];omega
    ·go_wp2_with fail;go_ret;exact x97 ⟨HFR.out,H20.out,H200.out,by have h:=HAL.out;rw[u_ (by omega)]at h;exact h⟩ (q12 HBL.out HB1.out)
def k94(r:ReqC)(A:Option Addr)(c:Nat)(A1:Option Addr)(c1:Nat)(A2:Option Addr)(c2:Nat)(g:CfgL)(a1 a2 a3:Int)(b cb bs:Nat):List (Value→World→Prop):=[fun v _=>v=.pointer (some ⟨b,0,none⟩),fun v _=>v=.pointer (some ⟨cb,0,none⟩),fun v _=>v=.agg (reqC r A c A1 c1 A2 c2),fun v _=>v=.pointer (some ⟨cb,11,none⟩),fun v _=>v=.agg #[.int .i64 a1,.int .i64 a2,.int .i64 a3],fun v _=>v=.agg #[.int .i64 a1,.int .i64 a2,.int .i64 a3],fun v _=>v=.pointer (some ⟨cb,14,none⟩),fun v _=>v=.agg (cfgC g),fun v w'=>∃b2,v=.pointer (some ⟨b2,0,none⟩)∧bs≤b2∧SexAt r g [b2,b] w' b2 (newS g a1 a2 a3)]
theorem y137(r:ReqC)(A:Option Addr)(c:Nat)(A1:Option Addr)(c1:Nat)(A2:Option Addr)(c2:Nat)(g:CfgL)(a1 a2 a3:Int)(b cb bs:Nat):∀f∈k94 r A c A1 c1 A2 c2 g a1 a2 a3 b cb bs,∀v w w',f v w→Below w.heap.size w w'→f v w':=by intro f hf;simp only[k94,C_,H_,au_]at hf;rcases hf with rfl|rfl|rfl|rfl|rfl|rfl|rfl|rfl|rfl;all_goals first|exact fun _ _ _ h _=>h|exact(fun v w w' h hb=>h.imp fun b2 h2=>⟨h2.1,h2.2.1,h2.2.2.alloc hb⟩)
def k159(r:ReqC)(g:CfgL)(a1 a2 a3:Int)(w:World)(e:Ending)(w':World):Prop:=((j23 r&&x26 g)=false→e=.returned (.tuple #[.pointer none,.pointer none,.bool true])∧Below w.heap.size w w')∧((j23 r&&x26 g)=true→∃b b2,e=.returned (.tuple #[.pointer (some ⟨b,0,none⟩),.pointer (some ⟨b2,0,none⟩),.bool true])∧Both r g w [b] [b2,b] w' b b2 (newS g a1 a2 a3) (newS g a1 a2 a3))
theorem x94(r:ReqC)(A:Option Addr)(c:Nat)(A1:Option Addr)(c1:Nat)(A2:Option Addr)(c2:Nat)(a1 a2 a3:Int)(g:CfgL)(LA:Option Addr)(lc:Nat)(L:List OpX)(w:World)(h:ReqAt r w A c A1 c1 A2 c2)(hs:ShortR r):Calls Tryz.prog 7 #[.agg (k57 r A c A1 c1 A2 c2 a1 a2 a3 g LA L.length lc)] w (k159 r g a1 a2 a3 w):=by
 have HS:=a_ h;have HN:=fun W h=>a_ (q94 r g a1 a2 a3 A c A1 c1 A2 c2 W h hs);have HRT:=fun W h=>a_ (q122 r g A c A1 c1 A2 c2 W h hs);clear h hs;obtain⟨V,hV⟩:∃V,(j23 r&&x26 g)=V:=⟨_,rfl⟩;have HV:=a_ hV;rw[hV]at HRT;clear hV;unfold k57;unfold reqC cfgC at HN HRT;go_enter Tryz.func7,Tryz.ntmps7;go_upto_region 1 with fail;obtain⟨W0,hW0,X0,HB0⟩:=box1 w #[.bool r.hd,.string ⟨r.ob.toArray⟩,.slice A r.L.length c,.slice A1 r.k.M.length c1,.slice A2 r.k.N.length c2,.bool r.k.am,.bool r.k.an,.int .i64 r.k.si,.int .i64 r.k.un,.string ⟨r.k.rt.toArray⟩,.bool r.k.rw,.int .i64 a1,.int .i64 a2,.int .i64 a3,.int .i64 g.j0,.int .i64 g.j1,.int .i64 g.j2,.int .i64 g.cs,.int .i64 g.j4,.int .i64 g.j5,.int .i64 g.j6,.int .i64 g.j7,.int .i64 g.j8,.int .i64 g.j9,.slice LA L.length lc] 36;rw[hW0];clear hW0;obtain⟨v0,v1,v2,v3,v4,v5,v6,v7,v8,v9,v10,v11,v12,v13,v14,v15,v16,v17,v18,v19,v20,v21,v22,v23,_⟩:=bc25 X0.out;have vz:=q14 X0.out;go_wp2_with fail;refine(HN _ (HS.out.below HB0.out)).out.mono ?_;rintro e w1⟨hno,hyes,hb1⟩;have HB1:=a_ (q12 hb1 HB0.out);have X1:=a_ (j3 hb1 X0.out);rw[HV.out]at hno hyes;clear hb1 X0 v0 v1 v2 v3 v4 v5 v6 v7 v8 v9 v10 v11 v12 v13 v14 v15 v16 v17 v18 v19 v20 v21 v22 v23 vz;obtain⟨v0,v1,v2,v3,v4,v5,v6,v7,v8,v9,v10,v11,v12,v13,v14,v15,v16,v17,v18,v19,v20,v21,v22,v23,_⟩:=bc25 X1.out;have vz:=q14 X1.out;cases V with
  |false=>obtain rfl:=hno rfl;clear hno hyes;go_wp2_with fail;refine(HRT _ (HS.out.below HB1.out)).out.mono ?_;rintro e w2⟨rfl,hb2⟩;have HB2:=a_ (q12 hb2 HB1.out);clear hb2;go_wp2_with fail;refine m_ (by simp[results,Tryz.results7,go_sem];try rfl) rfl ?_;exact⟨fun _=>⟨rfl,HB2.out⟩,fun h=>by rw[HV.out]at h;cases h⟩
  |true=>
   obtain⟨b,rfl,hlb,hsb⟩:=hyes rfl;have HSB:=a_ hsb;have HLB:=a_ hlb;clear hno hyes hsb hlb;go_wp2_with fail;refine(HRT _ (HS.out.below HB1.out)).out.mono ?_;rintro e w3⟨rfl,hb2⟩;have HB3:=a_ (q12 hb2 HB1.out);have X3:=a_ (j3 hb2 X1.out);have HSB3:=a_ (HSB.out.alloc hb2);clear hb2 HRT HN X1 v0 v1 v2 v3 v4 v5 v6 v7 v8 v9 v10 v11 v12 v13 v14 v15 v16 v17 v18 v19 v20 v21 v22 v23 vz;go_upto_region 6 with fail;have HAS:Hid (∀W,Hid (Calls Tryz.prog 34 #[.agg #[.int .i64 a1,.int .i64 a2,.int .i64 a3]] W fun e w'=>∃v,e=.returned v∧(fun v _=>v=.agg #[.int .i64 a1,.int .i64 a2,.int .i64 a3]) v w'∧Below W.heap.size W w')):=fun W=>a_ ((q103 a1 a2 a3 W).mono fun e w' h=>⟨_,h.1,rfl,h.2⟩);have HNX:Hid (∀W,Below w3.heap.size w3 W→Hid (Calls Tryz.prog 33 #[.agg (reqC r A c A1 c1 A2 c2),.agg #[.int .i64 a1,.int .i64 a2,.int .i64 a3],.agg (cfgC g)] W fun e w'=>∃v,e=.returned v∧(fun v w'=>∃b2,v=.pointer (some ⟨b2,0,none⟩)∧w3.heap.size≤b2∧SexAt r g [b2,b] w' b2 (newS g a1 a2 a3)) v w'∧Below W.heap.size W w')):=fun W hW=>by have hrq:ReqIn [b] r W A c A1 c1 A2 c2:=((HS.out.fresh (S:=[b]) (by have:=HLB.out;have:=HB0.out.size;simp;omega)).below HB3.out).below hW;refine a_ ((w135 r g a1 a2 a3 A c A1 c1 A2 c2 [b] W hrq (by have:=HSB3.out.lt b (by simp);have:=hW.size;simp;omega)).mono ?_);rintro e w'⟨b2,rfl,h1,h2,h3⟩;exact⟨_,rfl,⟨b2,rfl,ai_ hW.size h1,h2⟩,h3⟩
   refine q184 9 rfl (by kernel_rfl) [35,36,37,38,39,40,41,42,43] (by decide) rfl (RInv w3 (FG (k94 r A c A1 c1 A2 c2 g a1 a2 a3 b w.heap.size w3.heap.size) w3.heap.size 74 q33) (fun j=>decide (9≤j))) rfl (fun _=>RInv.start 9 (x15 (b_ _ _))) ?_ ?_;·
    intro i oo li vs wx B HBF HSV ho hi hdep hI K hK;have hmono:=FG.mono (base:=w3.heap.size) (T:=74) (Z:=q33) (y137 r A c A1 c1 A2 c2 g a1 a2 a3 b w.heap.size w3.heap.size);rcases i with _|_|_|_|_|_|_|_|_|i;·obtain rfl:=c_ ho;obtain rfl:=HBF.out;simp only[puts,Act.put,d_,h_,f_]at hK⊢;go_simp;exact st0 hI hmono hK rfl rfl
    ·obtain rfl:=c_ ho;obtain rfl:=HBF.out;simp only[puts,Act.put,d_,h_,f_]at hK⊢;go_simp;exact st0 hI hmono hK rfl rfl
    ·obtain rfl:=c_ ho;refine bb_ 29 (.tmp 36) rfl w.heap.size 0 ((HSV.out 1 36 rfl).trans (fv hI hdep 1 (by simp))) (reqC r A c A1 c1 A2 c2).toList _ (k40 (j3 hI.bel X3.out) 0 rfl) bk_ rfl (by kernel_rfl) ?_;exact st0 hI hmono hK rfl rfl
    ·obtain rfl:=c_ ho;obtain rfl:=HBF.out;simp only[puts,Act.put,d_,h_,f_]at hK⊢;go_simp;exact st0 hI hmono hK rfl rfl
    ·obtain rfl:=c_ ho;refine bb_ 31 (.tmp 38) rfl w.heap.size 11 ((HSV.out 3 38 rfl).trans (fv hI hdep 3 (by simp))) (#[.int .i64 a1,.int .i64 a2,.int .i64 a3]:Array Value).toList _ (k40 (j3 hI.bel X3.out) 11 rfl) Tryz.underlying31 rfl (by kernel_rfl) ?_;exact st0 hI hmono hK rfl rfl
    ·obtain rfl:=c_ ho;have e4:vs 4=_:=fv hI hdep 4 (by simp);have hbb:=hI.bel;have HC:Hid (Calls Tryz.prog 34 #[vs 4] wx fun e w'=>∃v,e=.returned v∧(fun v _=>v=.agg #[.int .i64 a1,.int .i64 a2,.int .i64 a3]) v w'∧Below wx.heap.size wx w'):=by simp only[Hid];rw[e4];exact(HAS.out _).out
     clear e4 hbb;have t4:=w10 (HSV.out 4 39 rfl);go_simp;refine HC.out.mono ?_;rintro e wy⟨v,rfl,hg,hb⟩;exact hK.out _ _ (hI.step hmono hb rfl hg)
    ·obtain rfl:=c_ ho;obtain rfl:=HBF.out;simp only[puts,Act.put,d_,h_,f_]at hK⊢;go_simp;exact st0 hI hmono hK rfl rfl
    ·obtain rfl:=c_ ho;refine bb_ 33 (.tmp 41) rfl w.heap.size 14 ((HSV.out 6 41 rfl).trans (fv hI hdep 6 (by simp))) (cfgC g).toList _ (k40 (j3 hI.bel X3.out) 14 rfl) Tryz.underlying33 rfl (by kernel_rfl) ?_;exact st0 hI hmono hK rfl rfl
    ·obtain rfl:=c_ ho;have e2:vs 2=_:=fv hI hdep 2 (by simp);have e5:vs 5=_:=fv hI hdep 5 (by simp);have e7:vs 7=_:=fv hI hdep 7 (by simp);have hbb:=hI.bel;have HC:Hid (Calls Tryz.prog 33 #[vs 2,vs 5,vs 7] wx fun e w'=>∃v,e=.returned v∧(fun v w'=>∃b2,v=.pointer (some ⟨b2,0,none⟩)∧w3.heap.size≤b2∧SexAt r g [b2,b] w' b2 (newS g a1 a2 a3)) v w'∧Below wx.heap.size wx w'):=by simp only[Hid];rw[e2,e5,e7];exact(HNX.out _ hbb).out
     clear e2 e5 e7 hbb;have t2:=w10 (HSV.out 2 37 rfl);have t5:=w10 (HSV.out 5 40 rfl);have t7:=w10 (HSV.out 7 42 rfl);go_simp;refine HC.out.mono ?_;rintro e wy⟨v,rfl,hg,hb⟩;exact hK.out _ _ (hI.step hmono hb rfl hg)
    ·omega
   intro li vs w4 hall hI;have e0:vs 0=.pointer (some ⟨b,0,none⟩):=hI.facts 0 (hall 0 (by decide));obtain⟨b2,e8,hb2,hsx⟩:∃b2,vs 8=.pointer (some ⟨b2,0,none⟩)∧w3.heap.size≤b2∧SexAt r g [b2,b] w4 b2 (newS g a1 a2 a3):=hI.facts 8 (hall 8 (by decide));have HBO:Hid (Both r g w [b] [b2,b] w4 b b2 (newS g a1 a2 a3) (newS g a1 a2 a3)):=Both.start HSB3.out (ai_ HB0.out.size HLB.out) HB3.out hsx hb2 hI.bel;clear hall hI hb2 hsx;simp only[puts,Act.put,d_,h_,f_,aC_,aQ_];rw[e0,e8];generalize vs 1=y1;generalize vs 2=y2;generalize vs 3=y3;generalize vs 4=y4;generalize vs 5=y5;generalize vs 6=y6;generalize vs 7=y7;clear e0 e8;go_wp2_with fail;refine m_ (by simp[results,Tryz.results7,go_sem];try rfl) rfl ?_;exact⟨fun h=>(by rw[HV.out]at h;cases h),fun _=>⟨b,b2,rfl,HBO.out⟩⟩
def j67:Array Value:=#[.slice none 0 0,.slice none 0 0,.bool false,.bool false,.bool false]
def arG(o:OpX)(pb wb:Nat):List (Value→World→Prop):=[fun v _=>v=.pointer (some ⟨pb,22,none⟩),fun v _=>v=.slice o.HA o.H.length o.hc,fun v w'=>∃A c,v=.agg #[.slice A (cano o.H).length c]∧Sp w' A c (cano o.H),fun v w'=>∃A c,v=.slice A (cano o.H).length c∧Own w' wb A c (cano o.H),fun v _=>v=.pointer (some ⟨pb,23,none⟩),fun v _=>v=.slice o.FA o.F.length o.fc,fun v w'=>∃A c,v=.agg #[.slice A (cano o.F).length c]∧Sp w' A c (cano o.F),fun v w'=>∃A c,v=.slice A (cano o.F).length c∧Own w' wb A c (cano o.F),fun v _=>v=.pointer (some ⟨pb,24,none⟩),fun v _=>v=.bool o.tr,fun v _=>v=.pointer (some ⟨pb,25,none⟩),fun v _=>v=.bool o.fa,fun v _=>v=.pointer (some ⟨pb,26,none⟩),fun v _=>v=.bool o.jo]
theorem w159(o:OpX)(pb wb:Nat):∀f∈arG o pb wb,∀v w w',f v w→Below w.heap.size w w'→f v w':=by intro f hf;simp only[arG,C_,H_,au_]at hf;rcases hf with rfl|rfl|rfl|rfl|rfl|rfl|rfl|rfl|rfl|rfl|rfl|rfl|rfl|rfl;all_goals first|exact fun _ _ _ h _=>h|exact(fun v w w' h hb=>h.imp fun A h2=>h2.imp fun c h3=>⟨h3.1,h3.2.below hb⟩)
def w137(o:OpX)(w:World)(e:Ending)(w':World):Prop:=∃A c B d n m,e=.returned (.agg #[.slice A n c,.slice B m d,.bool o.tr,.bool o.fa,.bool o.jo])∧n=(cano o.H).length∧m=(cano o.F).length∧Sp w' A c (cano o.H)∧Sp w' B d (cano o.F)∧Below w.heap.size w w'
theorem k75(o:OpX)(w:World)(h:OpAt w o)(hl:o.H.length≤8∧o.F.length≤8):Calls Tryz.prog 12 #[.agg (w19 o).toArray] w (w137 o w):=by
 have HO:=a_ h;have HL:=a_ hl;clear h hl;go_enter Tryz.func12,Tryz.ntmps12;go_upto_region 1 with fail;obtain⟨W0,hW0⟩:∃W,(w.alloc (.cells (w19 o).toArray 50)).alloc (.cells #[.slice none 0 0,.slice none 0 0,.bool false,.bool false,.bool false] 56)=W:=⟨_,rfl⟩;have X0:Hid (W0.heap[w.heap.size]?=some (.cells (w19 o).toArray 50 (0,0))):=by rw[←hW0];exact j16 (j17 rfl)
 have X1:Hid (W0.heap[w.heap.size+1]?=some (.cells #[.slice none 0 0,.slice none 0 0,.bool false,.bool false,.bool false] 56 (0,0))):=by rw[←hW0];exact j17 (by simp)
 have HB0:Hid (Below w.heap.size w W0):=by rw[←hW0];exact q11 (q11 (b_ _ _) _) _
 first|rw[hW0]|(unfold w19 at hW0;rw[hW0])
 clear hW0;refine q184 14 rfl (by kernel_rfl) [3,4,5,6,7,8,9,10,11,12,13,14,15,16] (by decide) rfl (RInv W0 (FG (arG o w.heap.size W0.heap.size) W0.heap.size 56 j67) (fun j=>decide (14≤j))) rfl (fun _=>RInv.start 14 (x15 (b_ _ _))) ?_ ?_;·
  intro i oo li vs wx B HBF HSV ho hi hdep hI K hK;have hmono:=FG.mono (base:=W0.heap.size) (T:=56) (Z:=j67) (w159 o w.heap.size W0.heap.size);rcases i with _|_|_|_|_|_|_|_|_|_|_|_|_|_|i;·obtain rfl:=c_ ho;obtain rfl:=HBF.out;simp only[puts,Act.put,d_,h_,f_]at hK⊢;go_simp;exact st0 hI hmono hK rfl rfl
  ·obtain rfl:=c_ ho;have t0:B.tmps[3]?.getD undef=_:=sv HSV hI hdep 0 rfl (by simp);have x0:=bc 22 (j3 hI.bel X0.out) rfl;go_simp;exact st0 hI hmono hK rfl rfl
  ·obtain rfl:=c_ ho;have e1:vs 1=_:=fv hI hdep 1 (by simp);have hbb:=hI.bel;have HC:Hid (Calls Tryz.prog 30 #[vs 1] wx fun e w'=>∃v,e=.returned v∧(fun v w'=>∃A c,v=.agg #[.slice A (cano o.H).length c]∧Sp w' A c (cano o.H)) v w'∧Below wx.heap.size wx w'):=by simp only[Hid];rw[e1];refine(j91 o.HA o.hc o.H _ ((HO.out.h.below HB0.out).below hbb) (by have:=HL.out;omega)).mono ?_;rintro e w'⟨A,c,rfl,h1,h2⟩;exact⟨_,rfl,⟨A,c,rfl,h1⟩,h2⟩
   clear e1 hbb;have t1:=w10 (HSV.out 1 4 rfl);go_simp;refine HC.out.mono ?_;rintro e wy⟨v,rfl,hg,hb⟩;exact hK.out _ _ (hI.step hmono hb rfl hg)
  ·obtain rfl:=c_ ho;obtain⟨A1,c1,e2,hs2⟩:∃A c,vs 2=.agg #[.slice A (cano o.H).length c]∧Sp wx A c (cano o.H):=hI.facts 2 (hdep ⟨2,.data⟩ (by simp) rfl);have hbb:=hI.bel;have HC:Hid (Calls Tryz.prog 50 #[vs 2] wx fun e w'=>∃v,e=.returned v∧(fun v w'=>∃A c,v=.slice A (cano o.H).length c∧Own w' W0.heap.size A c (cano o.H)) v w'∧Below wx.heap.size wx w'):=by simp only[Hid];rw[e2];refine(q100 A1 c1 (cano o.H) _ hs2 (by have:=k46 o.H;have:=HL.out;omega)).mono ?_;rintro e w'⟨A,c,rfl,h1,h2⟩;exact⟨_,rfl,⟨A,c,rfl,h1.base_le hbb.size⟩,h2⟩
   clear e2 hs2 hbb;have t2:=w10 (HSV.out 2 5 rfl);go_simp;refine HC.out.mono ?_;rintro e wy⟨v,rfl,hg,hb⟩;exact hK.out _ _ (hI.step hmono hb rfl hg)
  ·obtain rfl:=c_ ho;obtain rfl:=HBF.out;simp only[puts,Act.put,d_,h_,f_]at hK⊢;go_simp;exact st0 hI hmono hK rfl rfl
  ·obtain rfl:=c_ ho;have t4:B.tmps[7]?.getD undef=_:=sv HSV hI hdep 4 rfl (by simp);have x0:=bc 23 (j3 hI.bel X0.out) rfl;go_simp;exact st0 hI hmono hK rfl rfl
  ·obtain rfl:=c_ ho;have e5:vs 5=_:=fv hI hdep 5 (by simp);have hbb:=hI.bel;have HC:Hid (Calls Tryz.prog 30 #[vs 5] wx fun e w'=>∃v,e=.returned v∧(fun v w'=>∃A c,v=.agg #[.slice A (cano o.F).length c]∧Sp w' A c (cano o.F)) v w'∧Below wx.heap.size wx w'):=by simp only[Hid];rw[e5];refine(j91 o.FA o.fc o.F _ ((HO.out.f.below HB0.out).below hbb) (by have:=HL.out;omega)).mono ?_;rintro e w'⟨A,c,rfl,h1,h2⟩;exact⟨_,rfl,⟨A,c,rfl,h1⟩,h2⟩
   clear e5 hbb;have t5:=w10 (HSV.out 5 8 rfl);go_simp;refine HC.out.mono ?_;rintro e wy⟨v,rfl,hg,hb⟩;exact hK.out _ _ (hI.step hmono hb rfl hg)
  ·obtain rfl:=c_ ho;obtain⟨A1,c1,e6,hs6⟩:∃A c,vs 6=.agg #[.slice A (cano o.F).length c]∧Sp wx A c (cano o.F):=hI.facts 6 (hdep ⟨6,.data⟩ (by simp) rfl);have hbb:=hI.bel;have HC:Hid (Calls Tryz.prog 50 #[vs 6] wx fun e w'=>∃v,e=.returned v∧(fun v w'=>∃A c,v=.slice A (cano o.F).length c∧Own w' W0.heap.size A c (cano o.F)) v w'∧Below wx.heap.size wx w'):=by simp only[Hid];rw[e6];refine(q100 A1 c1 (cano o.F) _ hs6 (by have:=k46 o.F;have:=HL.out;omega)).mono ?_;rintro e w'⟨A,c,rfl,h1,h2⟩;exact⟨_,rfl,⟨A,c,rfl,h1.base_le hbb.size⟩,h2⟩
   clear e6 hs6 hbb;have t6:=w10 (HSV.out 6 9 rfl);go_simp;refine HC.out.mono ?_;rintro e wy⟨v,rfl,hg,hb⟩;exact hK.out _ _ (hI.step hmono hb rfl hg)
  ·obtain rfl:=c_ ho;obtain rfl:=HBF.out;simp only[puts,Act.put,d_,h_,f_]at hK⊢;go_simp;exact st0 hI hmono hK rfl rfl
  ·obtain rfl:=c_ ho;have t8:B.tmps[11]?.getD undef=_:=sv HSV hI hdep 8 rfl (by simp);have x0:=bc 24 (j3 hI.bel X0.out) rfl;go_simp;exact st0 hI hmono hK rfl rfl
  ·obtain rfl:=c_ ho;obtain rfl:=HBF.out;simp only[puts,Act.put,d_,h_,f_]at hK⊢;go_simp;exact st0 hI hmono hK rfl rfl
  ·obtain rfl:=c_ ho;have t10:B.tmps[13]?.getD undef=_:=sv HSV hI hdep 10 rfl (by simp);have x0:=bc 25 (j3 hI.bel X0.out) rfl;go_simp;exact st0 hI hmono hK rfl rfl
  ·obtain rfl:=c_ ho;obtain rfl:=HBF.out;simp only[puts,Act.put,d_,h_,f_]at hK⊢;go_simp;exact st0 hI hmono hK rfl rfl
  ·obtain rfl:=c_ ho;have t12:B.tmps[15]?.getD undef=_:=sv HSV hI hdep 12 rfl (by simp);have x0:=bc 26 (j3 hI.bel X0.out) rfl;go_simp;exact st0 hI hmono hK rfl rfl
  ·omega
 intro li vs w4 hall hI;obtain⟨A,c,e3,h3⟩:∃A c,vs 3=.slice A (cano o.H).length c∧Own w4 W0.heap.size A c (cano o.H):=hI.facts 3 (hall 3 (by decide));obtain⟨B,d,e7,h7⟩:∃A c,vs 7=.slice A (cano o.F).length c∧Own w4 W0.heap.size A c (cano o.F):=hI.facts 7 (hall 7 (by decide));have e9:vs 9=.bool o.tr:=hI.facts 9 (hall 9 (by decide));have e11:vs 11=.bool o.fa:=hI.facts 11 (hall 11 (by decide));have e13:vs 13=.bool o.jo:=hI.facts 13 (hall 13 (by decide));have HB4:=a_ hI.bel;have X4:=a_ (j3 hI.bel X1.out);have H3:=a_ h3;have H7:=a_ h7;clear hall hI h3 h7;simp only[puts,Act.put,d_,h_,f_,aC_,aQ_];rw[e3,e7,e9,e11,e13];generalize vs 0=y0;generalize vs 1=y1;generalize vs 2=y2;generalize vs 4=y4;generalize vs 5=y5;generalize vs 6=y6;generalize vs 8=y8;generalize vs 10=y10;generalize vs 12=y12;clear e3 e7 e9 e11 e13;obtain⟨z0,z1,z2,z3,z4⟩:=bc5 X4.out rfl rfl rfl rfl rfl;have zf0:=q13 (i:=0) X4.out;have zf1:=q13 (i:=1) X4.out;have zf2:=q13 (i:=2) X4.out;have zf3:=q13 (i:=3) X4.out;have zf4:=q13 (i:=4) X4.out;have zz:=q14 X4.out;go_wp2_with fail;refine m_ (by simp[results,Tryz.results12,go_sem,z0,z1,z2,z3,z4];try rfl) rfl ?_;have hm:∀v0 v1 v2 v3 v4,Mut [w.heap.size+1] w4 (((((w4.setCell ⟨w.heap.size+1,0,none⟩ v0).setCell ⟨w.heap.size+1,1,none⟩ v1).setCell ⟨w.heap.size+1,2,none⟩ v2).setCell ⟨w.heap.size+1,3,none⟩ v3).setCell ⟨w.heap.size+1,4,none⟩ v4):=fun _ _ _ _ _=>.set (by simp) _ (.set (by simp) _ (.set (by simp) _ (.set (by simp) _ (.set (by simp) _ (.refl _ _)))));have hq:=q14 X1.out;refine⟨A,c,B,d,_,_,rfl,rfl,rfl,H3.out.sp.mut (fun h0 a ha=>?_) (hm _ _ _ _ _),H7.out.sp.mut (fun h0 a ha=>?_) (hm _ _ _ _ _),(q12 HB4.out HB0.out).trans ((hm _ _ _ _ _).below (by simp) (by have:=HB0.out.size;have:=HB4.out.size;omega))⟩;·obtain⟨g1,e,h1,_⟩:=H3.out.at_ h0;rw[e]at ha;injection ha with ha;rw[←ha];simp;omega
 ·obtain⟨g1,e,h1,_⟩:=H7.out.at_ h0;rw[e]at ha;injection ha with ha;rw[←ha];simp;omega
structure SesL.Ok2(s:SesL):Prop where
 ok:s.Ok
 cut:s.st≠3→s.cut=false
 len5:s.lf.length≤5000
theorem SesL.Ok2.len{s:SesL}(h:s.Ok2):s.lf.length≤10000:=by have:=h.len5;omega
theorem j130{g:CfgL}(hg:x26 g=true)(a1 a2 a3:Int):(newS g a1 a2 a3).Ok2:=by unfold x26 at hg;simp only[r_,p_]at hg;exact⟨⟨.inl rfl,fun h=>absurd h (by simp[newS]),fun _=>⟨rfl,rfl⟩,fun _=>rfl,by simp only[newS];omega⟩,fun _=>rfl,by simp[newS]⟩
theorem SesL.Ok2.cutS{s:SesL}(h:s.Ok2):s.cutS.Ok2:=by
 refine⟨h.ok.cut,fun h3=>?_,?_⟩;·
  unfold SesL.cutS at h3⊢;split at h3;·exact absurd ‹_› h3
  ·exact absurd rfl h3
 ·unfold SesL.cutS;split;·exact h.len5
  ·exact h.len5
theorem SesL.Ok2.failS{s:SesL}(h:s.Ok2)(h1:s.st=1):s.failS.Ok2:=⟨h.ok.fail h1,fun h3=>absurd rfl h3,h.len5⟩
theorem SesL.Ok2.meetS{s:SesL}(h:s.Ok2)(h1:s.st=1)(id:Int){ps:List w17}(hb:j29 ps)(hl:ps.length≤5000):(s.meetS id ps).Ok2:=by
 refine⟨h.ok.meet id hb,fun h3=>?_,?_⟩;·
  unfold SesL.meetS at h3⊢;split at h3;·exact absurd rfl h3
  ·rw[q_ (by assumption)];exact h.cut (by omega)
 ·unfold SesL.meetS;split;·simp
  ·exact hl
theorem q160{H:List (Int×Int)}{cs:Int}{L L':List w17}{p:w17}(h:w43 H cs L=some (p,L')):L'.length≤L.length:=by
 cases L with
  |nil=>cases h
  |cons q r=>
   change j182 H cs q r=some (p,L')at h;unfold j182 at h;split at h;·
    split at h;·cases h
    ·injection h with h;injection h with _ h;rw[←h];split<;>simp
   ·injection h with h;injection h with _ h;rw[←h];split<;>simp
theorem w115{n:Int}:∀{L L':List w17},x36 n L=some L'→L'.length≤L.length
 |[],_,h=>by cases h
 |[p],L',h=>by
  simp only[x36]at h;split at h;·injection h with h;rw[←h];split<;>simp
  ·cases h
 |p::q::r,L',h=>by rw[x36]at h;obtain⟨L2,h2,rfl⟩:=aO_.1 h;have:=w115 h2;simp only[g_]at this⊢;omega
theorem SesL.Ok2.next{s s':SesL}{H:List (Int×Int)}{cs:Int}{p:w17}(h:s.Ok2)(hc:Canon H)(hcs:1≤cs)(hn:s.nextS H cs=some (p,s')):s'.Ok2:=by
 refine⟨(h.ok.next hc hcs hn).1,?_,?_⟩;all_goals
  unfold SesL.nextS at hn;split at hn;·
   obtain⟨⟨q,L⟩,hq,he⟩:=aO_.1 hn;simp only[Prod.mk.injEq]at he;obtain⟨rfl,rfl⟩:=he;have hl:=q160 hq;have:=h.len5;split;·first|exact fun h3=>absurd rfl h3|simp
   ·first|exact fun h3=>h.cut h3|(simp only;omega)
  ·cases hn
theorem SesL.Ok2.sealS{s:SesL}(h:s.Ok2)(n:Int):(s.sealS n).Ok2:=by
 refine⟨h.ok.seal n,?_,?_⟩;all_goals
  unfold SesL.sealS;split;·
   split;·first|exact h.cut|exact h.len5
   ·have hl:=w115 (by assumption);have:=h.len5;split;·first|exact fun h3=>absurd rfl h3|simp
    ·first|exact fun h3=>h.cut h3|(simp only;omega)
  ·first|exact h.cut|exact h.len5
theorem SesL.Ok2.anewS{s:SesL}(h:s.Ok2)(a1 a2 a3:Int)(hm:s.mayAnew):(s.anewS a1 a2 a3).Ok2:=by have hc:s.cut=false:=h.cut (by have:=hm.1;omega);exact⟨h.ok.anew a1 a2 a3 hm hc,fun _=>hc,by simp[SesL.anewS]⟩
structure SesL.Went(s s':SesL)(anew:Bool):Prop where
 ok:s'.Ok2
 forth:s.Forth s' anew
theorem SesL.Ok2.stay{s:SesL}(h:s.Ok2)(a:Bool):s.Went s a:=⟨h,.refl _ _⟩
theorem y83(r:ReqC)(g:CfgL)(S:List Nat)(b:Nat)(s:SesL)(w:World)(h:SesAt r g S w b s)(id:Int)(ob:List UInt8)(m:MetaL)(KA:Option Addr)(kc:Nat)(x1 x2 x3:Int)(tu:Bool)(seed:Int)(hks:SpG encT 1 w KA kc m.keys)(hsm:j46 m)(henv:Env w)(hseed:-9223372036854775808≤seed∧seed≤9223372036854775807)(hok:j23 r=true)(hsr:ShortR r)(hcs:(Lit.int .i64 g.cs).wf=true):Calls Tryz.prog 28 #[.pointer (some ⟨b,0,none⟩),.agg (entV id ob m KA kc x1 x2 x3 tu),.int .i64 seed] w (q67 r g S b s id (ob=r.ob∧MetaOk m) m seed w):=by
 have H0:=a_ h;obtain⟨OK,hOK⟩:∃P:Prop,(ob=r.ob∧MetaOk m)=P:=⟨_,rfl⟩;have HOK:=a_ hOK;rw[hOK];clear hOK;obtain⟨A,c,A1,c1,A2,c2,en,bd,hb,hrq,hT,hN⟩:=h.blk;have HB:=a_ hb;have HR:=a_ hrq;have HT:=a_ hT;have HN:=a_ hN;have HI:=a_ h.in_;have HL:=a_ h.lt;have c24:w.cell? ⟨b,24,none⟩=some (.int .i64 s.st):=j14 hb rfl;have c25:w.cell? ⟨b,25,none⟩=some (.int .i64 en):=j14 hb rfl;have c26:w.cell? ⟨b,26,none⟩=some bd:=j14 hb rfl;have c27:w.cell? ⟨b,27,none⟩=some (.int .i64 s.ag):=j14 hb rfl;have c28:w.cell? ⟨b,28,none⟩=some (.bool s.told):=j14 hb rfl;have c29:w.cell? ⟨b,29,none⟩=some (.bool s.cut):=j14 hb rfl;have cz:=q14 hb;have cf:∀i,w.frozen? ⟨b,i,none⟩=false:=fun i=>q13 hb;have f24:=cf 24;have f26:=cf 26;have f29:=cf 29;clear hb hrq hT hN h cf;have HK:=a_ hks;have HEN:=a_ henv;have HRO:=a_ hok;have HSR:=a_ hsr;have HSD:=a_ hseed;have HCS:=a_ hcs;have HMR:=fun W h=>a_ (k106 m KA kc W h hsm);have HSM:=a_ hsm;clear hks henv hok hsr hseed hcs hsm;obtain⟨tg,wk,mo,ln,hv,fr,wh,er,ks,tn,kp⟩:=m;unfold entV j25 at*;simp only at HK HMR HSM⊢;go_enter Tryz.func28,Tryz.ntmps28;go_upto_region 1 with fail;obtain⟨W0,hW0,X0,X1,HB0⟩:=box2 w #[.int .i64 id,.string ⟨ob.toArray⟩,.string ⟨tg.toArray⟩,.bool wk,.int .i64 mo,.int .i64 ln,.int .i64 hv,.int .i64 fr,.int .i64 wh,.int .i64 er,.slice KA ks.length kc,.string ⟨tn.toArray⟩,.bool kp,.int .i64 x1,.int .i64 x2,.int .i64 x3,.bool tu] 47 #[.int .i64 0,.slice none 0 0,.slice none 0 0,.int .i64 0] 74;rw[hW0];clear hW0;have KB:Hid (W0.heap[b]?=some (.cells (sesC r A c A1 c1 A2 c2 g s en bd) 145 (0,0))):=j3 HB0.out HB.out;clear c24 c25 c26 c27 c28 c29 cz f24 f26 f29;have k24:W0.cell? ⟨b,24,none⟩=some (.int .i64 s.st):=j14 KB.out rfl;have kz:=q14 KB.out;have z0:=j14 (i:=0) X1.out rfl;have z1:=j14 (i:=1) X1.out rfl;have z2:=j14 (i:=2) X1.out rfl;have z3:=j14 (i:=3) X1.out rfl;have zf0:=q13 (i:=0) X1.out;have zf1:=q13 (i:=1) X1.out;have zf2:=q13 (i:=2) X1.out;have zf3:=q13 (i:=3) X1.out;have zz:=q14 X1.out;by_cases hst:s.st=1;rotate_left;·
  have hq:(s.st !=1)=true:=by rw[F_];exact hst
  have HST:=a_ hst;clear hst;go_wp2_with fail;obtain⟨W4,hW4⟩:∃W,(((W0.setCell ⟨w.heap.size+1,0,none⟩ (.int .i64 0)).setCell ⟨w.heap.size+1,1,none⟩ (.slice none 0 0)).setCell ⟨w.heap.size+1,2,none⟩ (.slice none 0 0)).setCell ⟨w.heap.size+1,3,none⟩ (.int .i64 0)=W:=⟨_,rfl⟩;have X4:Hid (W4.heap[w.heap.size+1]?=some (.cells #[.int .i64 0,.slice none 0 0,.slice none 0 0,.int .i64 0] 74 (0,0))):=by rw[←hW4];exact j15 (j15 (j15 (j15 (X1.out))))
  have HB4:Hid (Below w.heap.size w W4):=by rw[←hW4];exact w14 (w14 (w14 (w14 (HB0.out) (B_ _) _) (B_ _) _) (B_ _) _) (B_ _) _
  rw[hW4];clear hW4 z0 z1 z2 z3 zz zf0 zf1 zf2 zf3;have z0:=j14 (i:=0) X4.out rfl;have z1:=j14 (i:=1) X4.out rfl;have z2:=j14 (i:=2) X4.out rfl;have z3:=j14 (i:=3) X4.out rfl;refine m_ (by simp[results,Tryz.results28,go_sem,z0,z1,z2,z3];try rfl) rfl ?_;exact⟨fun _=>⟨rfl,H0.out.alloc HB4.out,HB4.out⟩,fun h=>absurd h HST.out,fun h=>absurd h HST.out⟩
 have hq:(s.st !=1)=false:=by rw[z_];exact hst
 have HST:=a_ hst;clear hst;have k1:W0.cell? ⟨b,1,none⟩=some (.string ⟨r.ob.toArray⟩):=j14 KB.out rfl;have e0:=j14 (i:=0) X0.out rfl;have e1:=j14 (i:=1) X0.out rfl;have e2:=j14 (i:=2) X0.out rfl;have e3:=j14 (i:=3) X0.out rfl;have e4:=j14 (i:=4) X0.out rfl;have e5:=j14 (i:=5) X0.out rfl;have e6:=j14 (i:=6) X0.out rfl;have e7:=j14 (i:=7) X0.out rfl;have e8:=j14 (i:=8) X0.out rfl;have e9:=j14 (i:=9) X0.out rfl;have e10:=j14 (i:=10) X0.out rfl;have e11:=j14 (i:=11) X0.out rfl;have e12:=j14 (i:=12) X0.out rfl;have ez:=q14 X0.out;go_upto_region 3 with fail;have HWR:Hid (∀w5:World,Below w.heap.size w w5→¬OK→q67 r g S b s id OK ⟨tg,wk,mo,ln,hv,fr,wh,er,ks,tn,kp⟩ seed w (.returned (.tuple #[ansZ,.int .i64 1])) w5):=fun w5 hb5 hno=>⟨fun h=>absurd HST.out h,fun _ _=>⟨rfl,H0.out.alloc hb5,hb5⟩,fun _ h=>absurd h hno⟩;by_cases hob:ob=r.ob;rotate_left;·
  have ho1:(ob==r.ob)=false:=by rw[j_];exact hob
  have HNO:=a_ hob;clear hob;go_quiet(fail);go_wp2_with fail;obtain⟨W4,hW4⟩:∃W,((((W0.drewN nq).setCell ⟨w.heap.size+1,0,none⟩ (.int .i64 0)).setCell ⟨w.heap.size+1,1,none⟩ (.slice none 0 0)).setCell ⟨w.heap.size+1,2,none⟩ (.slice none 0 0)).setCell ⟨w.heap.size+1,3,none⟩ (.int .i64 0)=W:=⟨_,rfl⟩;have X4:Hid (W4.heap[w.heap.size+1]?=some (.cells #[.int .i64 0,.slice none 0 0,.slice none 0 0,.int .i64 0] 74 (0,0))):=by rw[←hW4];exact j15 (j15 (j15 (j15 (j32 X1.out))))
  have HB4:Hid (Below w.heap.size w W4):=by rw[←hW4];exact w14 (w14 (w14 (w14 (q15 HB0.out _) (B_ _) _) (B_ _) _) (B_ _) _) (B_ _) _
  rw[hW4];clear hW4 z0 z1 z2 z3 zz zf0 zf1 zf2 zf3;have z0:=j14 (i:=0) X4.out rfl;have z1:=j14 (i:=1) X4.out rfl;have z2:=j14 (i:=2) X4.out rfl;have z3:=j14 (i:=3) X4.out rfl;refine m_ (by simp[results,Tryz.results28,go_sem,z0,z1,z2,z3];try rfl) rfl ?_;exact HWR.out _ HB4.out fun h=>HNO.out (HOK.out▸h:ob=r.ob∧_).1
 subst hob;have ho1:(r.ob==r.ob)=true:=by rw[aD_]
 go_region_held3(fun w'=>w'.cell? ⟨w.heap.size,1,none⟩=some (.string ⟨r.ob.toArray⟩)∧w'.cell? ⟨w.heap.size,2,none⟩=some (.string ⟨tg.toArray⟩)∧w'.cell? ⟨w.heap.size,3,none⟩=some (.bool wk)∧w'.cell? ⟨w.heap.size,4,none⟩=some (.int .i64 mo)∧w'.cell? ⟨w.heap.size,5,none⟩=some (.int .i64 ln)∧w'.cell? ⟨w.heap.size,6,none⟩=some (.int .i64 hv)∧w'.cell? ⟨w.heap.size,7,none⟩=some (.int .i64 fr)∧w'.cell? ⟨w.heap.size,8,none⟩=some (.int .i64 wh)∧w'.cell? ⟨w.heap.size,9,none⟩=some (.int .i64 er)∧w'.cell? ⟨w.heap.size,10,none⟩=some (.slice KA ks.length kc)∧w'.cell? ⟨w.heap.size,11,none⟩=some (.string ⟨tn.toArray⟩)∧w'.cell? ⟨w.heap.size,12,none⟩=some (.bool kp)∧w'.cell? ⟨b,1,none⟩=some (.string ⟨r.ob.toArray⟩))(first|exact⟨j14 (i:=1) X0.out rfl,j14 (i:=2) X0.out rfl,j14 (i:=3) X0.out rfl,j14 (i:=4) X0.out rfl,j14 (i:=5) X0.out rfl,j14 (i:=6) X0.out rfl,j14 (i:=7) X0.out rfl,j14 (i:=8) X0.out rfl,j14 (i:=9) X0.out rfl,j14 (i:=10) X0.out rfl,j14 (i:=11) X0.out rfl,j14 (i:=12) X0.out rfl,j14 (i:=1) KB.out rfl⟩|exact⟨j14 (i:=1) (q18 Y0.out) rfl,j14 (i:=2) (q18 Y0.out) rfl,j14 (i:=3) (q18 Y0.out) rfl,j14 (i:=4) (q18 Y0.out) rfl,j14 (i:=5) (q18 Y0.out) rfl,j14 (i:=6) (q18 Y0.out) rfl,j14 (i:=7) (q18 Y0.out) rfl,j14 (i:=8) (q18 Y0.out) rfl,j14 (i:=9) (q18 Y0.out) rfl,j14 (i:=10) (q18 Y0.out) rfl,j14 (i:=11) (q18 Y0.out) rfl,j14 (i:=12) (q18 Y0.out) rfl,j14 (i:=1) (q18 YB.out) rfl⟩)((go_at_call 81;refine(HMR _ (HK.out.below (by first|exact x15 HB0.out|exact HB0.out))).out.mono ?_;rintro e w1⟨ok,rfl,hiff,hb1⟩;have Y0:=a_ (j3 hb1 (q18 X0.out));have Y1:=a_ (j3 hb1 (q18 X1.out));have YB:=a_ (j3 hb1 (q18 KB.out));have HIF:=a_ hiff;have HB1:=a_ (q12 hb1 (x15 HB0.out));clear hiff hb1));cases ok with
  |false=>
   have HV:Hid (¬OK):=fun h=>by have h2:=HIF.out.2 (HOK.out▸h:_∧_).2;cases h2
   clear z0 z1 z2 z3 zz zf0 zf1 zf2 zf3;have z0:=j14 (i:=0) Y1.out rfl;have z1:=j14 (i:=1) Y1.out rfl;have z2:=j14 (i:=2) Y1.out rfl;have z3:=j14 (i:=3) Y1.out rfl;have zz:=q14 Y1.out;have zf0:=q13 (i:=0) Y1.out;have zf1:=q13 (i:=1) Y1.out;have zf2:=q13 (i:=2) Y1.out;have zf3:=q13 (i:=3) Y1.out;clear kz k24 k1 e0 e1 e2 e3 e4 e5 e6 e7 e8 e9 e10 e11 e12 ez;go_wp2_with fail;obtain⟨W4,hW4⟩:∃W,(((w1.setCell ⟨w.heap.size+1,0,none⟩ (.int .i64 0)).setCell ⟨w.heap.size+1,1,none⟩ (.slice none 0 0)).setCell ⟨w.heap.size+1,2,none⟩ (.slice none 0 0)).setCell ⟨w.heap.size+1,3,none⟩ (.int .i64 0)=W:=⟨_,rfl⟩;have X4:Hid (W4.heap[w.heap.size+1]?=some (.cells #[.int .i64 0,.slice none 0 0,.slice none 0 0,.int .i64 0] 74 (0,0))):=by rw[←hW4];exact j15 (j15 (j15 (j15 (Y1.out))))
   have HB4:Hid (Below w.heap.size w W4):=by rw[←hW4];exact w14 (w14 (w14 (w14 (HB1.out) (B_ _) _) (B_ _) _) (B_ _) _) (B_ _) _
   rw[hW4];clear hW4 z0 z1 z2 z3 zz zf0 zf1 zf2 zf3;have z0:=j14 (i:=0) X4.out rfl;have z1:=j14 (i:=1) X4.out rfl;have z2:=j14 (i:=2) X4.out rfl;have z3:=j14 (i:=3) X4.out rfl;refine m_ (by simp[results,Tryz.results28,go_sem,z0,z1,z2,z3];try rfl) rfl ?_;exact HWR.out _ HB4.out HV.out
  |true=>
   have HMO:Hid (MetaOk ⟨tg,wk,mo,ln,hv,fr,wh,er,ks,tn,kp⟩):=HIF.out.1 rfl;have HV:Hid OK:=HOK.out▸⟨by trivial,HMO.out⟩;clear HIF HWR HMR z0 z1 z2 z3 zz zf0 zf1 zf2 zf3 kz k24 k1 e0 e1 e2 e3 e4 e5 e6 e7 e8 e9 e10 e11 e12 ez;go_upto_region 5 with fail;obtain⟨o,ho⟩:∃o,outC r ⟨tg,wk,mo,ln,hv,fr,wh,er,ks,tn,kp⟩=o:=⟨_,rfl⟩;have HO:=a_ ho;have HTG:tg.length≤1000000:=by have h:=HSM.out.1;simp only at h;omega
   have HCK:Hid (∀W,Below w1.heap.size w1 W→Hid (Calls Tryz.prog 21 #[.agg (reqC r A c A1 c1 A2 c2),.agg (k182 ⟨tg,wk,mo,ln,hv,fr,wh,er,ks,tn,kp⟩ KA kc),.bool true] W fun e w'=>∃v,e=.returned v∧(fun v _=>v=.int .i64 o) v w'∧Below W.heap.size W w')):=fun W hb=>by have h1:=HR.out.below HB1.out;refine a_ ((q150 r.hd ⟨r.ob.toArray⟩ A r.L.length c A1 c1 A2 c2 r.k.M r.k.N r.k.am r.k.an r.k.si r.k.un r.k.rt r.k.rw tg wk mo ln hv fr wh er KA ks.length kc ⟨tn.toArray⟩ kp W (h1.at_.m.below hb) (h1.at_.n.below hb) HSR.out.k HTG).mono ?_);rintro e w'⟨rfl,h⟩;exact⟨_,rfl,R_ (Value.int .i64) ho,h⟩
   have HAR:Hid (allR r.L=true∧r.L.length≤70):=q98 HRO.out;have HSH:Hid (∀W,Below w1.heap.size w1 W→Hid (Calls Tryz.prog 20 #[.agg (reqC r A c A1 c1 A2 c2),.agg (k182 ⟨tg,wk,mo,ln,hv,fr,wh,er,ks,tn,kp⟩ KA kc),.int .i64 o,.agg (cfgC g),.int .i64 seed] W fun e w'=>∃v,e=.returned v∧GA (reqX r A c A1 c1 A2 c2) ⟨tg,wk,mo,ln,hv,fr,wh,er,ks,tn,kp⟩ o g.cs seed v w'∧Below W.heap.size W w')):=fun W hb=>by have h1:=HR.out.below HB1.out;refine a_ ((q146 (reqX r A c A1 c1 A2 c2) ⟨tg,wk,mo,ln,hv,fr,wh,er,ks,tn,kp⟩ KA kc o g.j0 g.j1 g.j2 g.cs g.j4 g.j5 g.j6 g.j7 g.j8 g.j9 seed W (h1.at_.sp.below hb) HAR.out.1 HAR.out.2 ((HK.out.below HB1.out).below hb) HMO.out ((HEN.out.below HB1.out).below hb) HSD.out HCS.out).mono ?_);intro e w' h;obtain⟨a,hp,A',c',k,B,d,j,rfl,rfl,rfl,h1,h2,h3⟩:=z95 h;exact⟨_,rfl,⟨a,A',c',B,d,hp,rfl,h1,h2⟩,h3⟩
   clear ho HTG;refine q184 20 rfl (by kernel_rfl) [32,33,34,35,36,37,38,39,40,41,42,43,44,45,46,47,48,49,50,8] (by decide) rfl (RInv w1 (FG (k79 r A c A1 c1 A2 c2 ⟨tg,wk,mo,ln,hv,fr,wh,er,ks,tn,kp⟩ KA kc g o seed b w.heap.size) w1.heap.size 74 q33) (fun j=>decide (19≤j))) rfl (fun _=>RInv.start 20 (x15 (b_ _ _))) ?_ ?_;·
    intro i oo li vs wx B HBF HSV ho hi hdep hI K hK;have hmono:=FG.mono (base:=w1.heap.size) (T:=74) (Z:=q33) (j136 r A c A1 c1 A2 c2 ⟨tg,wk,mo,ln,hv,fr,wh,er,ks,tn,kp⟩ KA kc g o seed b w.heap.size);rcases i with _|_|_|_|_|_|_|_|_|_|_|_|_|_|_|_|_|_|_|_|i;·obtain rfl:=c_ ho;obtain rfl:=HBF.out;simp only[puts,Act.put,d_,h_,f_]at hK⊢;go_simp;exact st0 hI hmono hK rfl rfl
    ·obtain rfl:=c_ ho;have t0:B.tmps[32]?.getD undef=_:=sv HSV hI hdep 0 rfl (by simp);go_simp;exact st0 hI hmono hK rfl rfl
    ·obtain rfl:=c_ ho;have t1:B.tmps[33]?.getD undef=_:=sv HSV hI hdep 1 rfl (by simp);go_simp;exact st0 hI hmono hK rfl rfl
    ·obtain rfl:=c_ ho;refine bb_ 29 (.tmp 34) rfl b 0 ((HSV.out 2 34 rfl).trans (fv hI hdep 2 (by simp))) (reqC r A c A1 c1 A2 c2).toList _ (k40 (j3 hI.bel YB.out) 0 rfl) bk_ rfl (by kernel_rfl) ?_;exact st0 hI hmono hK rfl rfl
    ·obtain rfl:=c_ ho;obtain rfl:=HBF.out;simp only[puts,Act.put,d_,h_,f_]at hK⊢;go_simp;exact st0 hI hmono hK rfl rfl
    ·obtain rfl:=c_ ho;refine bb_ 45 (.tmp 36) rfl w.heap.size 2 ((HSV.out 4 36 rfl).trans (fv hI hdep 4 (by simp))) (k182 ⟨tg,wk,mo,ln,hv,fr,wh,er,ks,tn,kp⟩ KA kc).toList _ (k40 (j3 hI.bel Y0.out) 2 rfl) Tryz.underlying45 rfl (by kernel_rfl) ?_;exact st0 hI hmono hK rfl rfl
    ·obtain rfl:=c_ ho;obtain rfl:=HBF.out;simp only[puts,Act.put,d_,h_,f_]at hK⊢;go_simp;exact st0 hI hmono hK rfl rfl
    ·obtain rfl:=c_ ho;have t6:B.tmps[38]?.getD undef=_:=sv HSV hI hdep 6 rfl (by simp);go_simp;exact st0 hI hmono hK rfl rfl
    ·obtain rfl:=c_ ho;have t7:B.tmps[39]?.getD undef=_:=sv HSV hI hdep 7 rfl (by simp);go_simp;exact st0 hI hmono hK rfl rfl
    ·obtain rfl:=c_ ho;refine bb_ 29 (.tmp 40) rfl b 0 ((HSV.out 8 40 rfl).trans (fv hI hdep 8 (by simp))) (reqC r A c A1 c1 A2 c2).toList _ (k40 (j3 hI.bel YB.out) 0 rfl) bk_ rfl (by kernel_rfl) ?_;exact st0 hI hmono hK rfl rfl
    ·obtain rfl:=c_ ho;obtain rfl:=HBF.out;simp only[puts,Act.put,d_,h_,f_]at hK⊢;go_simp;exact st0 hI hmono hK rfl rfl
    ·obtain rfl:=c_ ho;refine bb_ 45 (.tmp 42) rfl w.heap.size 2 ((HSV.out 10 42 rfl).trans (fv hI hdep 10 (by simp))) (k182 ⟨tg,wk,mo,ln,hv,fr,wh,er,ks,tn,kp⟩ KA kc).toList _ (k40 (j3 hI.bel Y0.out) 2 rfl) Tryz.underlying45 rfl (by kernel_rfl) ?_;exact st0 hI hmono hK rfl rfl
    ·obtain rfl:=c_ ho;have e9:vs 9=_:=fv hI hdep 9 (by simp);have e11:vs 11=_:=fv hI hdep 11 (by simp);have hbb:=hI.bel;have HC:Hid (Calls Tryz.prog 21 #[vs 9,vs 11,.bool true] wx fun e w'=>∃v,e=.returned v∧(fun v _=>v=.int .i64 o) v w'∧Below wx.heap.size wx w'):=by simp only[Hid];rw[e9,e11];exact(HCK.out _ hbb).out
     clear e9 e11 hbb;have t9:=w10 (HSV.out 9 41 rfl);have t11:=w10 (HSV.out 11 43 rfl);go_simp;refine HC.out.mono ?_;rintro e wy⟨v,rfl,hg,hb⟩;exact hK.out _ _ (hI.step hmono hb rfl hg)
    ·obtain rfl:=c_ ho;obtain rfl:=HBF.out;simp only[puts,Act.put,d_,h_,f_]at hK⊢;go_simp;exact st0 hI hmono hK rfl rfl
    ·obtain rfl:=c_ ho;have t13:B.tmps[45]?.getD undef=_:=sv HSV hI hdep 13 rfl (by simp);go_simp;exact st0 hI hmono hK rfl rfl
    ·obtain rfl:=c_ ho;have t14:B.tmps[46]?.getD undef=_:=sv HSV hI hdep 14 rfl (by simp);go_simp;exact st0 hI hmono hK rfl rfl
    ·obtain rfl:=c_ ho;refine bb_ 33 (.tmp 47) rfl b 14 ((HSV.out 15 47 rfl).trans (fv hI hdep 15 (by simp))) (cfgC g).toList _ (k40 (j3 hI.bel YB.out) 14 rfl) Tryz.underlying33 rfl (by kernel_rfl) ?_;exact st0 hI hmono hK rfl rfl
    ·obtain rfl:=c_ ho;obtain rfl:=HBF.out;simp only[puts,Act.put,d_,h_,f_]at hK⊢;go_simp;exact st0 hI hmono hK rfl rfl
    ·obtain rfl:=c_ ho;have e3:vs 3=_:=fv hI hdep 3 (by simp);have e5:vs 5=_:=fv hI hdep 5 (by simp);have e12:vs 12=_:=fv hI hdep 12 (by simp);have e16:vs 16=_:=fv hI hdep 16 (by simp);have e17:vs 17=_:=fv hI hdep 17 (by simp);have hbb:=hI.bel;have HC:Hid (Calls Tryz.prog 20 #[vs 3,vs 5,vs 12,vs 16,vs 17] wx fun e w'=>∃v,e=.returned v∧(GA (reqX r A c A1 c1 A2 c2) ⟨tg,wk,mo,ln,hv,fr,wh,er,ks,tn,kp⟩ o g.cs seed) v w'∧Below wx.heap.size wx w'):=by simp only[Hid];rw[e3,e5,e12,e16,e17];exact(HSH.out _ hbb).out
     clear e3 e5 e12 e16 e17 hbb;have t3:=w10 (HSV.out 3 35 rfl);have t5:=w10 (HSV.out 5 37 rfl);have t12:=w10 (HSV.out 12 44 rfl);have t16:=w10 (HSV.out 16 48 rfl);have t17:=w10 (HSV.out 17 49 rfl);go_simp;refine HC.out.mono ?_;rintro e wy⟨v,rfl,hg,hb⟩;exact hK.out _ _ (hI.step hmono hb rfl hg)
    ·obtain rfl:=c_ ho;refine y74 rfl ?_;exact hK.out _ _ (hI.new hmono (fun kq vq wq hk h=>FG.lt (gs:=k79 r A c A1 c1 A2 c2 ⟨tg,wk,mo,ln,hv,fr,wh,er,ks,tn,kp⟩ KA kc g o seed b w.heap.size) kq vq wq hk h) _ (FG.new rfl hI.bel.size))
    ·omega
   intro li vs w3 hall hI;have e18:GA (reqX r A c A1 c1 A2 c2) ⟨tg,wk,mo,ln,hv,fr,wh,er,ks,tn,kp⟩ o g.cs seed (vs 18) w3:=hI.facts 18 (hall 18 (by decide));obtain⟨ab,hab,eab,hzab⟩:∃x,w1.heap.size≤x∧vs 19=.pointer (some ⟨x,0,none⟩)∧w3.heap[x]?=some (.cells q33 74 (0,0)):=hI.facts 19 (hall 19 (by decide));have HB3:=a_ (q12 hI.bel (b_ w1.heap.size w1));clear hall hI;obtain⟨a,FA,fa,PA,pa,ha,e18,hfs,hps⟩:=e18;simp only[puts,Act.put,d_,h_,f_,aC_,aQ_];rw[e18,eab];generalize vs 0=y0;generalize vs 1=y1;generalize vs 2=y2;generalize vs 3=y3;generalize vs 4=y4;generalize vs 5=y5;generalize vs 6=y6;generalize vs 7=y7;generalize vs 8=y8;generalize vs 9=y9;generalize vs 10=y10;generalize vs 11=y11;generalize vs 12=y12;generalize vs 13=y13;generalize vs 14=y14;generalize vs 15=y15;generalize vs 16=y16;generalize vs 17=y17;clear e18 eab;refine q20 rfl 74 (.tmp 8) (.tmp 50) rfl rfl rfl hzab rfl q28 (by simp[Value.oneCell']) ?_;intro w4 hst;simp only[Act.put];have HPS:Hid (SpT 89 j18 3 w4 PA pa a.ps):=hps.store_ty hst hzab (by decide);have HFS:Hid (SpT 176 w18 2 w4 FA fa a.fs):=hfs.store_ty hst hzab (by decide);have HB4:Hid (Below w1.heap.size w1 w4):=hst.bel w1 HB3.out hab;have HAB:Hid (w4.heap[ab]?=some (.cells #[.int .i64 a.st,.slice FA a.fs.length fa,.slice PA a.ps.length pa,.int .i64 a.sz] 74 (0,0))):=hst.blk;have KAB:=a_ hab;have HA:=a_ ha;clear hst hzab hab hfs hps HB3 HCK HSH ha;have HBO:Hid (j29 a.ps):=HA.out.body HMO.out HAR.out.1;have HLE:Hid (a.ps.length≤10000):=by have h:=(HA.out.len HAR.out.2).2;simp only[Hid];omega
   have HNW:Hid (∀W,SpG j18 3 W PA pa a.ps→Hid (Calls Tryz.prog 82 #[.slice PA a.ps.length pa] W (z88 a.ps W))):=fun W h=>a_ (j122 PA pa a.ps W h HBO.out HLE.out);have HAZ:Hid (AnsP (reqZ r) ⟨tg,wk,mo,ln,hv,fr,wh,er,ks,tn,kp⟩ (outC r ⟨tg,wk,mo,ln,hv,fr,wh,er,ks,tn,kp⟩) g.cs seed a):=by simp only[Hid];rw[HO.out];exact HA.out.move rfl rfl
   obtain⟨ast,FL,PL,asz⟩:=a;dsimp only at HPS HFS HAB HBO HLE HNW;have q2:w4.cell? ⟨ab,2,none⟩=some (.slice PA PL.length pa):=j14 HAB.out rfl;have qz:=q14 HAB.out;go_upto_region 9 with(go_at_call 82;refine(HNW.out _ HPS.out.sp).out.mono ?_;rintro e w5⟨bb,bA,bc,bn,hbn,rfl,hbb,hbk,hown,hb5⟩);have HB5:=a_ (q12 hb5 HB4.out);have YB5:=a_ (j3 HB5.out YB.out);have Y05:=a_ (j3 HB5.out Y0.out);have Y15:=a_ (j3 HB5.out Y1.out);have HAB5:=a_ (j3 hb5 HAB.out);have HPS5:=a_ (HPS.out.below hb5);have HFS5:=a_ (HFS.out.below hb5);have HBK:=a_ hbk;have HOW:=a_ hown;have HBB:=a_ hbb;have HS4:=a_ HB4.out.size;have HS1:=a_ HB1.out.size;have HPL:=a_ (k165 HPS.out);have HBW:=a_ (q14 HB.out);have HY1:=a_ (q14 Y1.out);subst hbn;clear hbk hown hbb hb5 q2 qz HAB HPS HFS HB4 HNW YB Y0 Y1 HLE;have k24:w5.cell? ⟨b,24,none⟩=some (.int .i64 s.st):=j14 YB5.out rfl;have k25:w5.cell? ⟨b,25,none⟩=some (.int .i64 en):=j14 YB5.out rfl;have k26:w5.cell? ⟨b,26,none⟩=some bd:=j14 YB5.out rfl;have kf24:w5.frozen? ⟨b,24,none⟩=false:=q13 YB5.out;have kf25:w5.frozen? ⟨b,25,none⟩=false:=q13 YB5.out;have kf26:w5.frozen? ⟨b,26,none⟩=false:=q13 YB5.out;have kz:=q14 YB5.out;have e0:=j14 (i:=0) Y05.out rfl;have ez:=q14 Y05.out;go_region;obtain⟨W8,hW8⟩:∃W,(((w5.setCell ⟨b,24,none⟩ (.int .i64 2)).setCell ⟨b,25,none⟩ (.int .i64 id)).setCell ⟨b,26,none⟩ (.pointer (some ⟨bb,0,none⟩))).drew=W:=⟨_,rfl⟩;have K8:Hid (W8.heap[b]?=some (.cells (sesC r A c A1 c1 A2 c2 g {s with st:=2} id (.pointer (some ⟨bb,0,none⟩))) 145 (0,0))):=by rw[←hW8];exact q18 (j15 (j15 (j15 YB5.out)))
   have M8:Hid (Mut [b] w5 W8):=by rw[←hW8];exact Mut.drew (Mut.set (p:=⟨b,26,none⟩) (by simp) _ (Mut.set (p:=⟨b,25,none⟩) (by simp) _ (Mut.set (p:=⟨b,24,none⟩) (by simp) _ (Mut.refl _ _))))
   rw[hW8];clear hW8 k24 k25 k26 kf24 kf25 kf26 kz e0 ez;have hbb1:bb≠b:=by have:=HBB.out;have:=HS4.out;have:=HS1.out;have:=HBW.out;omega
   have BK8:Hid (W8.heap[bb]?=some (.cells #[.slice bA PL.length bc,.int .i64 0] 207 (0,0))):=M8.out.blk _ _ HBK.out (by simpa using hbb1);obtain⟨W9,en9,bd9,h9,k9,m9,t9,n9⟩:∃W9 en9 bd9,(if PL.length=0 then(W8.setCell ⟨b,24,none⟩ (.int .i64 3)).setCell ⟨b,26,none⟩ (.pointer none)else W8)=W9∧W9.heap[b]?=some (.cells (sesC r A c A1 c1 A2 c2 g (s.meetS id PL) en9 bd9) 145 (0,0))∧Mut [b] W8 W9∧((s.meetS id PL).st=2→en9=(s.meetS id PL).en∧(s.meetS id PL).lf=PL∧PL≠[]∧bd9=.pointer (some ⟨bb,0,none⟩))∧((s.meetS id PL).st≠2→bd9=.pointer none∧(s.meetS id PL).en=0):=by
    by_cases hp:PL=[];·have hm:s.meetS id PL={s with st:=3,en:=0,lf:=[]}:=w_ hp;rw[hm];refine⟨_,id,.pointer none,w_ (by rw[hp];rfl),j15 (j15 K8.out),Mut.set (p:=⟨b,26,none⟩) (by simp) _ (Mut.set (p:=⟨b,24,none⟩) (by simp) _ (Mut.refl _ _)),fun h=>absurd h (by simp),fun _=>⟨rfl,rfl⟩⟩
    ·have hm:s.meetS id PL={s with st:=2,en:=id,lf:=PL}:=q_ hp;rw[hm];exact⟨_,id,.pointer (some ⟨bb,0,none⟩),q_ (fun h=>hp (l_ h)),K8.out,Mut.refl _ _,fun _=>⟨rfl,rfl,hp,rfl⟩,fun h=>absurd rfl h⟩
   have HE9:Hid (Calls Tryz.prog 83 #[.pointer (some ⟨b,0,none⟩)] W8 fun e w'=>e=.returned (.tuple #[])∧w'=W9):=by have h:=q62 b bb _ bA bc PL.length 0 W8 K8.out rfl rfl BK8.out;rw[h9]at h;exact h
   have K9:=a_ k9;have M9:Hid (Mut [b] w5 W9):=M8.out.trans m9;have T9:=a_ t9;have N9:=a_ n9;clear h9 k9 m9 t9 n9 K8 M8 BK8 hbb1;have hab:ab≠b:=by have:=KAB.out;have:=HS1.out;have:=HBW.out;omega
   have hxb:w.heap.size+1≠b:=by have:=HBW.out;omega
   have HAB9:Hid (W9.heap[ab]?=some (.cells #[.int .i64 ast,.slice FA FL.length fa,.slice PA PL.length pa,.int .i64 asz] 74 (0,0))):=M9.out.blk _ _ HAB5.out (by simpa using hab);have Y19:Hid (W9.heap[w.heap.size+1]?=some (.cells #[.int .i64 0,.slice none 0 0,.slice none 0 0,.int .i64 0] 74 (0,0))):=M9.out.blk _ _ Y15.out (by simpa using hxb);clear hab hxb;go_upto_region 11 with(go_at_call 83;refine HE9.out.mono ?_;rintro e w9⟨rfl,hw9⟩;obtain rfl:W9=w9:=hw9.symm);have q0:=j14 (i:=0) HAB9.out rfl;have q1:=j14 (i:=1) HAB9.out rfl;have q2:=j14 (i:=2) HAB9.out rfl;have q3:=j14 (i:=3) HAB9.out rfl;have qz:=q14 HAB9.out;have z0:=j14 (i:=0) Y19.out rfl;have z1:=j14 (i:=1) Y19.out rfl;have z2:=j14 (i:=2) Y19.out rfl;have z3:=j14 (i:=3) Y19.out rfl;have zf0:=q13 (i:=0) Y19.out;have zf1:=q13 (i:=1) Y19.out;have zf2:=q13 (i:=2) Y19.out;have zf3:=q13 (i:=3) Y19.out;have zz:=q14 Y19.out;go_wp2_with fail;obtain⟨W4,hW4⟩:∃W,(((W9.setCell ⟨w.heap.size+1,0,none⟩ (.int .i64 ast)).setCell ⟨w.heap.size+1,1,none⟩ (.slice FA FL.length fa)).setCell ⟨w.heap.size+1,2,none⟩ (.slice PA PL.length pa)).setCell ⟨w.heap.size+1,3,none⟩ (.int .i64 asz)=W:=⟨_,rfl⟩;have X4:Hid (W4.heap[w.heap.size+1]?=some (.cells #[.int .i64 ast,.slice FA FL.length fa,.slice PA PL.length pa,.int .i64 asz] 74 (0,0))):=by rw[←hW4];exact j15 (j15 (j15 (j15 Y19.out)))
   have K4:Hid (W4.heap[b]?=some (.cells (sesC r A c A1 c1 A2 c2 g (s.meetS id PL) en9 bd9) 145 (0,0))):=by have hb:=HBW.out;simp only[Hid];rw[←hW4];exact w15 (by simp only;omega) (w15 (by simp only;omega) (w15 (by simp only;omega) (w15 (by simp only;omega) K9.out)))
   have M4:Hid (Mut [b,w.heap.size+1] w5 W4):=by rw[←hW4];exact Mut.set (p:=⟨w.heap.size+1,3,none⟩) (by simp) _ (Mut.set (p:=⟨w.heap.size+1,2,none⟩) (by simp) _ (Mut.set (p:=⟨w.heap.size+1,1,none⟩) (by simp) _ (Mut.set (p:=⟨w.heap.size+1,0,none⟩) (by simp) _ (M9.out.mono (by simp)))))
   rw[hW4];clear hW4 q0 q1 q2 q3 qz z0 z1 z2 z3 zf0 zf1 zf2 zf3 zz;have z0:=j14 (i:=0) X4.out rfl;have z1:=j14 (i:=1) X4.out rfl;have z2:=j14 (i:=2) X4.out rfl;have z3:=j14 (i:=3) X4.out rfl;refine m_ (by simp[results,Tryz.results28,go_sem,z0,z1,z2,z3];try rfl) rfl ?_;have hb:=HBW.out;have hs1:=HS1.out;have hs4:=HS4.out;have hy1:=HY1.out;have hs5:=HB5.out.size;have hbb:=HBB.out;have hbw5:=q12 HB5.out HB1.out;have hm:Mut S w W4:=(Mut.of_below hbw5).trans_new M4.out (fun k hk=>by
    simp only[C_,H_,au_]at hk;rcases hk with rfl|rfl;·exact .inl HI.out
    ·exact .inr (by omega));have hps:SpT 89 j18 3 W4 PA pa PL:=HPS5.out.mut (fun x hx=>by have h1:=w49 HPS5.out YB5.out (by decide) x hx;have h2:=w49 HPS5.out Y15.out (by decide) x hx;simp[h1,h2]) M4.out;have hfs:SpT 176 w18 2 W4 FA fa FL:=HFS5.out.mut (fun x hx=>by have h1:=w49 HFS5.out YB5.out (by decide) x hx;have h2:=w49 HFS5.out Y15.out (by decide) x hx;simp[h1,h2]) M4.out;have hpb:∀x,PA=some x→x.block≠b:=w49 HPS5.out YB5.out (by decide);refine⟨fun h=>absurd HST.out h,fun _ h=>absurd HV.out h,fun _ _=>?_⟩;by_cases hp:PL=[];·
    have hst:(s.meetS id PL).st≠2:=by rw[show s.meetS id PL={s with st:=3,en:=0,lf:=[]}from w_ hp];simp
    refine⟨_,[b],HAZ.out,⟨FA,fa,_,PA,pa,_,rfl,rfl,rfl,hfs,hps,fun x hx=>by simpa using hpb x hx⟩,⟨by simp,fun k hk=>?_,A,c,A1,c1,A2,c2,en9,bd9,K4.out,HR.out.go hm (fun k hk=>?_),fun h=>absurd h hst,N9.out⟩,fun k hk=>?_,hm⟩;·rw[D_]at hk;rw[hk];exact q14 K4.out
    ·rw[D_]at hk;rw[hk];exact .inl HI.out
    ·rw[D_]at hk;rw[hk];exact .inl HI.out
   ·have hst:(s.meetS id PL).st=2:=by rw[show s.meetS id PL={s with st:=2,en:=id,lf:=PL}from q_ hp]
    obtain⟨t1,t2,t3,t4⟩:=T9.out hst;obtain⟨gr,hg1,hg2,hg3⟩:=j79 HOW.out hp M4.out (fun k hk=>by simp only[C_,H_,au_]at hk;rcases hk with rfl|rfl<;>omega);have hbk4:W4.heap[bb]?=some (.cells #[.slice bA PL.length bc,.int .i64 0] 207 (0,0)):=M4.out.blk _ _ HBK.out (by simp;omega);refine⟨_,[b,bb,gr],HAZ.out,⟨FA,fa,_,PA,pa,_,rfl,rfl,rfl,hfs,hps,fun x hx=>?_⟩,⟨by simp,fun k hk=>?_,A,c,A1,c1,A2,c2,en9,bd9,K4.out,HR.out.go hm (fun k hk=>?_),fun _=>⟨t1,by rw[t2];exact t3,by rw[t2];exact HBO.out,bb,t4,by simp,?_⟩,N9.out⟩,fun k hk=>?_,hm⟩;·have:=hpb x hx;have:=HPL.out x hx;simp;omega
    ·simp only[C_,H_,au_]at hk;rcases hk with rfl|rfl|rfl;·exact q14 K4.out
     ·exact q14 hbk4
     ·exact hg2
    ·simp only[C_,H_,au_]at hk;rcases hk with rfl|rfl|rfl;·exact .inl HI.out
     ·exact .inr (by omega)
     ·exact .inr (by omega)
    ·rw[t2];exact⟨bA,bc,_,rfl,0,hbk4,hg3 _ (by simp)⟩
    ·simp only[C_,H_,au_]at hk;rcases hk with rfl|rfl|rfl;·exact .inl HI.out
     ·exact .inr (by omega)
     ·exact .inr (by omega)
def exR:ReqC:=⟨false,[47,97],[(3,4)],⟨[],[],false,false,-1,-1,[],false⟩⟩
def exM:MetaL:=⟨[118],false,-1,10,10,0,0,0,[],[],true⟩
def exG:CfgL:=⟨4,0,64,8,1,0,0,64,64,8⟩
theorem exR_ok:j23 exR=true:=by decide
theorem exG_ok:x26 exG=true:=by decide
theorem v103:ShortR exR:=⟨by decide,by decide,⟨by decide,by decide,(fun t ht=>by simp[exR]at ht),(fun t ht=>by simp[exR]at ht),by decide⟩⟩
theorem exM_ok:MetaOk exM:=(v133 _).1 (by decide)
theorem v149:j46 exM:=⟨by decide,by decide,by decide,(fun x hx=>by simp[exM]at hx)⟩
theorem j160:outC exR exM=1:=by decide
theorem k160:resL 10 [(3,4)]=[(3,5)]:=by decide
theorem k149:Folded 0 [(3,5)] [((3,5),0)]:=by
 refine⟨⟨fun o ho=>?_,fun i hi=>?_,fun o ho=>?_,fun o ho=>?_,fun o ho p h1 h2=>?_⟩,?_,?_⟩;·simp at ho;subst ho;simp[inP]
 ·simp at hi;have:i=0:=by omega
  subst this;simp[inP]
 ·simp at ho;subst ho;simp[inP]
 ·simp at ho;subst ho;simp[inP]
 ·simp at ho;subst ho;simp at h1 h2⊢;omega
 ·simp
 ·simp
theorem w160{O:List ((Int×Int)×Nat)}(h:Folded 0 [(3,5)] O):O.map Prod.fst=[(3,5)]:=by rw[h.eq (by simp) (by decide) k149];rfl
theorem z161{a:AnsL}(h:AnsP (reqZ exR) exM (outC exR exM) exG.cs 1 a):a.st=206∧a.ps=[([],(3,5))]:=by rw[j160]at h;unfold AnsP at h;rw[q_ (by decide),q_ (by decide),w_ (by decide)]at h;obtain⟨O,hO,rfl⟩:=h;have hm:O.map Prod.fst=[(3,5)]:=w160 (by rw[←k160];exact hO);rw[hm];exact⟨rfl,rfl⟩
theorem k103:cano [(0,10)]=[(0,10)]:=(j129 (Canon.one (by decide)) (fun p=>Iff.rfl)).symm
theorem x149:(SesL.meetS (newS exG 0 0 0) 5 [([],(3,5))]).nextS [(0,10)] 8=some (([],(3,5)),{newS exG 0 0 0 with st:=3,en:=0,lf:=[],told:=true}):=by rfl
theorem w83(w:World)(henv:Env w):Calls Tryz.prog 6 #[] w fun e w'=>e=.returned (.bool true)∧Below w.heap.size w w':=by
 have HE:=a_ henv;clear henv;go_enter Tryz.func6,Tryz.ntmps6;go_upto_region 2 with fail;obtain⟨W0,hW0⟩:∃W,(w.alloc (.cells #[.int .i64 3,.int .i64 4] 81)).alloc (.cells #[.bool false,.string ⟨#[47,97]⟩,.slice (some ⟨w.heap.size,0,none⟩) 1 1,.slice none 0 0,.slice none 0 0,.bool false,.bool false,.int .i64 (-1),.int .i64 (-1),.string ⟨#[]⟩,.bool false] 29)=W:=⟨_,rfl⟩;have X0:Hid (W0.heap[w.heap.size]?=some (.cells #[.int .i64 3,.int .i64 4] 81 (0,0))):=by rw[←hW0];exact j16 (j17 rfl)
 have X1:Hid (W0.heap[w.heap.size+1]?=some (.cells #[.bool false,.string ⟨#[47,97]⟩,.slice (some ⟨w.heap.size,0,none⟩) 1 1,.slice none 0 0,.slice none 0 0,.bool false,.bool false,.int .i64 (-1),.int .i64 (-1),.string ⟨#[]⟩,.bool false] 29 (0,0))):=by rw[←hW0];exact j17 (by simp)
 have HB0:Hid (Below w.heap.size w W0):=by rw[←hW0];exact q11 (q11 (b_ _ _) _) _
 have HRQ:Hid (ReqAt exR W0 (some ⟨w.heap.size,0,none⟩) 1 none 0 none 0):=⟨⟨by decide,(fun e=>by cases e),fun hn=>⟨w.heap.size,0,rfl,q14 X0.out,fun i x hx=>by
  have hi:i=0:=by have:=(O_.1 hx).1;simp[exR]at this;exact this
  subst hi;injection hx with hx;subst hx;exact⟨j14 X0.out rfl,j14 X0.out rfl⟩⟩⟩,SpG.nil _,SpG.nil _⟩;rw[hW0];clear hW0;obtain⟨q0,q1,q2,q3,q4,q5,q6,q7,q8,q9,q10⟩:=bc11 X1.out;have HQ:Hid (W0.cell? ⟨w.heap.size+1,0,none⟩=some (.bool false)∧W0.cell? ⟨w.heap.size+1,1,none⟩=some (.string ⟨#[47,97]⟩)∧W0.cell? ⟨w.heap.size+1,2,none⟩=some (.slice (some ⟨w.heap.size,0,none⟩) 1 1)∧W0.cell? ⟨w.heap.size+1,3,none⟩=some (.slice none 0 0)∧W0.cell? ⟨w.heap.size+1,4,none⟩=some (.slice none 0 0)∧W0.cell? ⟨w.heap.size+1,5,none⟩=some (.bool false)∧W0.cell? ⟨w.heap.size+1,6,none⟩=some (.bool false)∧W0.cell? ⟨w.heap.size+1,7,none⟩=some (.int .i64 (-1))∧W0.cell? ⟨w.heap.size+1,8,none⟩=some (.int .i64 (-1))∧W0.cell? ⟨w.heap.size+1,9,none⟩=some (.string ⟨#[]⟩)∧W0.cell? ⟨w.heap.size+1,10,none⟩=some (.bool false)):=⟨q0,q1,q2,q3,q4,q5,q6,q7,q8,q9,q10⟩;clear q0 q1 q2 q3 q4 q5 q6 q7 q8 q9 q10;have HCF:=fun W=>a_ (w114 W);have HN:=fun W h=>a_ (q94 exR exG 0 0 0 (some ⟨w.heap.size,0,none⟩) 1 none 0 none 0 W h v103);go_cut[2,3](fun s2 s3 wx=>∃b:Nat,s2=.pointer (some ⟨b,0,none⟩)∧s3=.int .i64 0∧SesAt exR exG [b] wx b (newS exG 0 0 0)∧W0.heap.size≤b∧Below W0.heap.size W0 wx);case first=>
  go_region_held3(fun w'=>w'.cell? ⟨w.heap.size+1,0,none⟩=some (.bool false)∧w'.cell? ⟨w.heap.size+1,1,none⟩=some (.string ⟨#[47,97]⟩)∧w'.cell? ⟨w.heap.size+1,2,none⟩=some (.slice (some ⟨w.heap.size,0,none⟩) 1 1)∧w'.cell? ⟨w.heap.size+1,3,none⟩=some (.slice none 0 0)∧w'.cell? ⟨w.heap.size+1,4,none⟩=some (.slice none 0 0)∧w'.cell? ⟨w.heap.size+1,5,none⟩=some (.bool false)∧w'.cell? ⟨w.heap.size+1,6,none⟩=some (.bool false)∧w'.cell? ⟨w.heap.size+1,7,none⟩=some (.int .i64 (-1))∧w'.cell? ⟨w.heap.size+1,8,none⟩=some (.int .i64 (-1))∧w'.cell? ⟨w.heap.size+1,9,none⟩=some (.string ⟨#[]⟩)∧w'.cell? ⟨w.heap.size+1,10,none⟩=some (.bool false))(((try dsimp only);refine⟨x16 (W:=W0) ?_ HQ.out.1,x16 (W:=W0) ?_ HQ.out.2.1,x16 (W:=W0) ?_ HQ.out.2.2.1,x16 (W:=W0) ?_ HQ.out.2.2.2.1,x16 (W:=W0) ?_ HQ.out.2.2.2.2.1,x16 (W:=W0) ?_ HQ.out.2.2.2.2.2.1,x16 (W:=W0) ?_ HQ.out.2.2.2.2.2.2.1,x16 (W:=W0) ?_ HQ.out.2.2.2.2.2.2.2.1,x16 (W:=W0) ?_ HQ.out.2.2.2.2.2.2.2.2.1,x16 (W:=W0) ?_ HQ.out.2.2.2.2.2.2.2.2.2.1,x16 (W:=W0) ?_ HQ.out.2.2.2.2.2.2.2.2.2.2⟩<;>(repeat(first|exact b_ _ _|exact hbw2|exact hbw|refine q15 ?_ _|refine x15 ?_|refine q11 ?_ _))))(first
   |(go_at_call 25;refine(HN _ (HRQ.out.below (by repeat(first|exact hbw|refine x15 ?_|exact b_ _ _)))).out.mono ?_;intro e w2 hnp;obtain⟨b,rfl,hlb,hsb⟩:=hnp.2.1 (by rw[exR_ok,exG_ok];rfl);have hbw2:Below W0.heap.size W0 w2:=q12 hnp.2.2 (by repeat(first|exact hbw|refine x15 ?_|exact b_ _ _));have hlb2:W0.heap.size≤b:=ai_ (by exact hbw.size) hlb;clear hnp)
   |(go_at_call 26;refine(HCF _).out.mono ?_;rintro e w1⟨rfl,hb1⟩;have hbw:Below W0.heap.size W0 w1:=q12 hb1 (by repeat(first|exact b_ _ _|refine x15 ?_));clear hb1));all_goals go_wp2_with fail
  all_goals go_meet
  all_goals exact⟨b,rfl,rfl,hsb,hlb2,hbw2⟩
 case rest=>
  obtain⟨b,rfl,rfl,hsb,hlb,hbx⟩:=hcut;have HSB:=a_ hsb;have HLB:=a_ hlb;have HBX:=a_ (q12 hbx HB0.out);clear hsb hlb hbx HCF HN HQ X1 HRQ;go_upto_region 5 with(go_at_call 27;refine(w182 exR exG [b] b _ _ HSB.out).mono ?_;rintro e w3⟨rfl,hw3⟩;obtain rfl:wc=w3:=hw3.symm);go_wp2_with fail;refine(y83 exR exG [b] b (newS exG 0 0 0) _ HSB.out 5 [47,97] exM none 0 0 0 0 false 1 (SpG.nil _) v149 (HE.out.below HBX.out) (by decide) exR_ok v103 (by decide)).mono ?_;intro e w4 hmp;obtain⟨a,S',hans,hme,hsa,hS',hmut⟩:=hmp.2.2 rfl ⟨rfl,exM_ok⟩;obtain⟨hst,hps⟩:=z161 hans;obtain⟨FA,fa,fk,PA,pa,pk,rfl,rfl,rfl,hf,hp,hn⟩:=hme;obtain⟨ast,FL,PL,asz⟩:=a;simp only at hst hps hsa;subst hst hps;have HSA:=a_ hsa;have HM4:Hid (Below w.heap.size w w4):=HBX.out.trans (hmut.below (by have:=HLB.out;have:=HB0.out.size;simp;omega) HBX.out.size);have HLS:Hid (∀k∈S',w.heap.size≤k):=fun k hk=>by
   have h1:=HLB.out;have h2:=HB0.out.size;have h3:=HBX.out.size;rcases hS' k hk with h4|h4;·rw[D_]at h4;omega
   ·omega
  clear hmp hans hf hp hn hS' hmut hsa;go_upto_region 6 with fail;obtain⟨W5,hW5,X5,HB5⟩:=box1 w4 #[.int .i64 206,.slice FA FL.length fa,.slice PA 1 pa,.int .i64 asz] 74;rw[hW5];clear hW5;go_wp2_with fail;obtain⟨W6,hW6,X6,HB6⟩:=box1 W5 #[.int .i64 0,.int .i64 10] 59;rw[hW6];clear hW6;have hsp:Sp W6 (some ⟨W5.heap.size,0,none⟩) 1 [(0,10)]:=⟨by decide,(fun e=>by cases e),fun hn=>⟨W5.heap.size,0,rfl,q14 X6.out,fun i x hx=>by
   have hi:i=0:=by have:=(O_.1 hx).1;simp at this;exact this
   subst hi;injection hx with hx;subst hx;exact⟨j14 X6.out rfl,j14 X6.out rfl⟩⟩⟩;refine(j91 (some ⟨W5.heap.size,0,none⟩) 1 [(0,10)] _ hsp (by decide)).mono ?_;rintro e w7⟨A7,c7,rfl,h7,hb7⟩;have HB7:=a_ (q12 (q12 hb7 HB6.out) HB5.out);have HS7:=a_ (HSA.out.alloc HB7.out);have X7:=a_ (j3 (q12 hb7 HB6.out) X5.out);have H7:=a_ h7;clear hsp hb7 h7 X6 X5 HB6 HB5;go_wp2_with fail;refine(k62 exR exG S' b _ _ HS7.out A7 c7 (cano [(0,10)]) H7.out (j31 _) (by rw[k103];decide) ⟨by decide,by decide⟩).mono ?_;intro e w8 hnx;obtain⟨rfl,S2,hs2,_,_,hm2⟩:=hnx.2 _ _ (by rw[k103];exact x149);have HS8:=a_ hs2;have X8:=a_ (hm2.blk _ _ X7.out (fun hi=>by have:=HSA.out.lt _ hi;omega));have HBS:Hid (∀k∈S',w.heap.size≤k):=HLS.out;have HB8:Hid (Below w.heap.size w w8):=(q12 HB7.out HM4.out).trans (hm2.below HBS.out (by have:=HM4.out.size;have:=HB7.out.size;omega));clear hnx hs2 hm2;unfold ptV;have x0:=bc 0 X8.out rfl;have xz:=q14 X8.out;go_wp2_with(first|(go_at_call 27;refine(w182 exR exG S2 b _ _ (HS8.out.alloc (q11 (b_ _ _) _))).mono ?_;rintro e w9⟨rfl,rfl⟩)|(go_at_call 31;refine(w58 exR exG S2 b _ _ (HS8.out.alloc (q11 (b_ _ _) _))).mono ?_;rintro e w9⟨rfl,rfl⟩));go_ret;exact⟨rfl,q11 HB8.out _⟩
theorem k183{P:Program}{ops:Array Oper}{rest:List Oper}{op:Oper}{a:Act}{w:World}{Q:Exit→Act→World→Prop}(hgd:op.guard=none)(x:Operand)(ho:op.op=.move x)(h:wpList P ops Q rest (a.put op.dst (a.eval x)) w):wpList P ops Q (op::rest) a w:=wpList_plain hgd fun _ hK=>by unfold Oper.wp execOp;rw[ho];exact hK _ _ h
theorem q161(r:ReqC)(g:CfgL)(S:List Nat)(b:Nat)(s:SesL)(w:World)(h:SesAt r g S w b s)(E1:Array Value)(id:Int)(ob:List UInt8)(m:MetaL)(KA:Option Addr)(kc:Nat)(x1 x2 x3:Int)(tu:Bool)(hE:entV id ob m KA kc x1 x2 x3 tu=E1)(seed:Int)(hks:SpG encT 1 w KA kc m.keys)(hsm:j46 m)(henv:Env w)(hseed:-9223372036854775808≤seed∧seed≤9223372036854775807)(hok:j23 r=true)(hsr:ShortR r)(hcs:(Lit.int .i64 g.cs).wf=true):Calls Tryz.prog 28 #[.pointer (some ⟨b,0,none⟩),.agg E1,.int .i64 seed] w (q67 r g S b s id (ob=r.ob∧MetaOk m) m seed w):=by rw[←hE];exact y83 r g S b s w h id ob m KA kc x1 x2 x3 tu seed hks hsm henv hseed hok hsr hcs
theorem k67:(Tryz.prog.info? 36).map (·.size)=some 25:=by kernel_rfl
theorem y149:(Tryz.prog.info? 47).map (·.size)=some 17:=by kernel_rfl
