/- Contracts of Anew of both sessions. Printed by gen_o19.py. Plain: how a .. -/
import Derived.Test.YtkkomffmnafjkaaGreatDoorZO11
import Derived.BigRegion
import Derived.Test.YtkkomffmnafjkaaGreatDoorZO24
import Derived.Test.YtkkomffmnafjkaaGreatDoorZF0
import Derived.Test.YtkkomffmnafjkaaGreatDoorZI5
set_option maxHeartbeats 16000000
set_option maxRecDepth 100000
set_option linter.all false
namespace Go.Proofs.YtkkomffmnafjkaaGreatDoor
open Go.RowKit
def SesL.anewS(s:SesL)(a1 a2 a3:Int):SesL:=⟨1,a1,a2,a3,0,[],s.ag-1,s.told,s.cut⟩
def SesL.mayAnew(s:SesL):Prop:=s.st=2∧s.told=false∧1≤s.ag
def SesL.nextS(s:SesL)(H:List (Int×Int))(cs:Int):Option (w17×SesL):=if s.st=2 then(w43 H cs s.lf).map fun x=>(x.1,if x.2=[]then{s with st:=3,en:=0,lf:=[],told:=true}else{s with lf:=x.2,told:=true})else none
structure SesL.Ok(s:SesL):Prop where
 st:s.st=1∨s.st=2∨s.st=3
 tells:s.st=2→s.lf≠[]∧j29 s.lf
 asks:s.st=1→s.told=false∧s.cut=false
 over:s.st≠2→s.en=0
 ag:0≤s.ag∧s.ag≤100
theorem SesL.Ok.cut{s:SesL}(h:s.Ok):s.cutS.Ok:=by
 unfold SesL.cutS;split;·exact h
 ·exact⟨.inr (.inr rfl),fun h=>absurd h (by simp),fun h=>absurd h (by simp),fun _=>rfl,h.ag⟩
theorem SesL.Ok.fail{s:SesL}(h:s.Ok)(h1:s.st=1):s.failS.Ok:=⟨.inr (.inr rfl),fun h=>absurd h (by simp[SesL.failS]),fun h=>absurd h (by simp[SesL.failS]),fun _=>h.over (by omega),h.ag⟩
theorem SesL.Ok.next{s s':SesL}{H:List (Int×Int)}{cs:Int}{p:w17}(h:s.Ok)(hc:Canon H)(hcs:1≤cs)(hn:s.nextS H cs=some (p,s')):s'.Ok∧k58 p:=by
 unfold SesL.nextS at hn;split at hn;·
  next h2=>
   obtain⟨⟨q,L⟩,hq,he⟩:=Option.map_eq_some_iff.1 hn;obtain⟨h3,h4⟩:=j126 hc hcs (h.tells h2).2 hq;simp only[Prod.mk.injEq]at he;obtain⟨rfl,rfl⟩:=he;refine⟨?_,h4⟩;split;·exact⟨.inr (.inr rfl),fun h=>absurd h (by simp),fun h=>absurd h (by simp),fun _=>rfl,h.ag⟩
   ·next hne=>exact⟨.inr (.inl h2),fun _=>⟨hne,h3⟩,fun h1=>absurd (h2.symm.trans h1) (by decide),fun h1=>absurd h2 h1,h.ag⟩
 ·cases hn
theorem SesL.Ok.anew{s:SesL}(h:s.Ok)(a1 a2 a3:Int)(hm:s.mayAnew)(hcut:s.cut=false):(s.anewS a1 a2 a3).Ok:=by obtain⟨h1,h2,h3⟩:=hm;exact⟨.inl rfl,fun h=>absurd h (by simp[SesL.anewS]),fun _=>⟨h2,hcut⟩,fun _=>rfl,by have:=h.ag;simp only[SesL.anewS];omega⟩
structure SesL.Forth(s s':SesL)(anew:Bool):Prop where
 over:s.st=3→s'=s
 forth:anew=false→s.st≤s'.st
theorem SesL.Forth.refl(s:SesL)(a:Bool):s.Forth s a:=⟨fun _=>rfl,fun _=>Int.le_refl _⟩
structure Both(r:ReqC)(g:CfgL)(w0:World)(S D:List Nat)(w:World)(b b2:Nat)(s x:SesL):Prop where
 p:SesAt r g S w b s
 d:SexAt r g D w b2 x
 sub:∀k∈S,k∈D
 ne:b2∉S
 low:∀k∈D,w0.heap.size≤k
 bel:Below w0.heap.size w0 w
section
variable{r:ReqC}{g:CfgL}{w0:World}{S S' D:List Nat}{w w':World}{b b2:Nat}{s s' x x':SesL}
theorem Both.step(h:Both r g w0 S D w b b2 s x)(h1:SesAt r g S' w' b s')(h2:∀k∈S',k∈S∨w.heap.size≤k)(hm:Mut S w w'):Both r g w0 S' (D++S') w' b b2 s' x:=by
 have hlow:∀k∈D++S',w0.heap.size≤k:=fun k hk=>by
  rcases List.mem_append.1 hk with hk|hk;·exact h.low k hk
  ·rcases h2 k hk with h3|h3;·exact h.low k (h.sub k h3)
   ·have:=h.bel.size;omega
 have hne:b2∉S':=fun hin=>by
  rcases h2 _ hin with h3|h3;·exact h.ne h3
  ·have:=h.d.lt _ h.d.in_;omega
 refine⟨h1,h.d.mut hm h.sub h.ne (List.mem_append.2 (.inl h.d.in_)) (fun k hk=>?_) (fun k hk=>?_),fun k hk=>List.mem_append.2 (.inr hk),hne,hlow,?_⟩;·
  rcases List.mem_append.1 hk with hk|hk;·exact Nat.lt_of_lt_of_le (h.d.lt k hk) hm.size
  ·exact h1.lt k hk
 ·rcases List.mem_append.1 hk with hk|hk;·exact .inl hk
  ·exact(h2 k hk).imp_left (h.sub k)
 ·exact h.bel.trans (hm.below (fun k hk=>h.low k (h.sub k hk)) h.bel.size)
theorem Both.post(h:Both r g w0 S D w b b2 s x)(hp:k35 r g S b s' w w'):∃S' D',Both r g w0 S' D' w' b b2 s' x:=by obtain⟨S',h1,h2,_,hm⟩:=hp;exact⟨S',_,h.step h1 h2 hm⟩
theorem Both.below(h:Both r g w0 S D w b b2 s x)(hb:Below w.heap.size w w'):Both r g w0 S D w' b b2 s x:=⟨h.p.alloc hb,h.d.alloc hb,h.sub,h.ne,h.low,q12 hb h.bel⟩
theorem Both.start{a1 a2 a3:Int}{w1:World}(h1:SesAt r g [b] w b (newS g a1 a2 a3))(hb1:w0.heap.size≤b)(hb:Below w0.heap.size w0 w)(h2:SexAt r g [b2,b] w1 b2 (newS g a1 a2 a3))(hb2:w.heap.size≤b2)(hw:Below w.heap.size w w1):Both r g w0 [b] [b2,b] w1 b b2 (newS g a1 a2 a3) (newS g a1 a2 a3):=by have hlt:=h1.lt b (by simp);have hsz:=hb.size;refine⟨h1.alloc hw,h2,by simp,by simp;omega,?_,q12 hw hb⟩;intro k hk;simp only[List.mem_cons,List.not_mem_nil,or_false]at hk;rcases hk with rfl|rfl<;>omega
end
structure OpX where
 kind:Int
 id:Int
 ob:List UInt8
 m:MetaL
 KA:Option Addr
 kc:Nat
 x1:Int
 x2:Int
 x3:Int
 tu:Bool
 a1:Int
 a2:Int
 a3:Int
 n:Int
 HA:Option Addr
 hc:Nat
 H:List (Int×Int)
 FA:Option Addr
 fc:Nat
 F:List (Int×Int)
 tr:Bool
 fa:Bool
 jo:Bool
instance:Inhabited OpX:=⟨⟨0,0,[],⟨[],false,0,0,0,0,0,0,[],[],false⟩,none,0,0,0,0,false,0,0,0,0,none,0,[],none,0,[],false,false,false⟩⟩
structure OpAt(w:World)(o:OpX):Prop where
 k:SpG encT 1 w o.KA o.kc o.m.keys
 h:Sp w o.HA o.hc o.H
 f:Sp w o.FA o.fc o.F
 kind:0≤o.kind∧o.kind≤255
 n:-9223372036854775808≤o.n∧o.n≤9223372036854775807
 hl:o.H.length≤9223372036854775807
 fl:o.F.length≤9223372036854775807
 kl:o.m.keys.length≤9223372036854775807
theorem OpAt.below{w w':World}{o:OpX}(h:OpAt w o)(hb:Below w.heap.size w w'):OpAt w' o:=⟨h.k.below hb,h.h.below hb,h.f.below hb,h.kind,h.n,h.hl,h.fl,h.kl⟩
theorem SpG.cell{α:Type}{en:α→List Value}{n:Nat}{w:World}{g off c:Nat}{L:List α}(h:SpG en n w (some ⟨g,off,none⟩) c L){k j:Nat}{v:Value}(hk:k<L.length)(hv:(en L[k])[j]?=some v):w.cell? ⟨g,off+k*n+j,none⟩=some v:=by obtain⟨b',off',e',hb',hcell⟩:=h.at' k hk;injection e' with e';injection e' with e1 e2 _;subst e1 e2;exact hcell j v hv
theorem BodyAt.alloc{S:List Nat}{w:World}{bb:Nat}{L:List w17}(h:BodyAt S w bb L)(o:Obj):BodyAt S (w.alloc o) bb L:=h.below (q11 (Below.refl _ _) _)
theorem BodyAt.mut{S T:List Nat}{w w':World}{bb:Nat}{L:List w17}(h:BodyAt T w bb L)(hT:∀k∈S,k∉T)(hm:Mut S w w'):BodyAt T w' bb L:=by
 obtain⟨A,c,n,hn,sent,h1,h2⟩:=h.blk;refine⟨h.in_,A,c,n,hn,sent,hm.blk _ _ h1 (fun hi=>hT _ hi h.in_),h2.sp.mut (fun h0 a ha hi=>?_) hm,fun hl=>?_⟩;·obtain⟨g,off,cs,e1,e2,e3⟩:=h2.own h0;rw[ha]at e1;injection e1 with e1;rw[e1]at hi;exact hT _ hi e3
 ·obtain⟨g,off,cs,e1,e2,e3⟩:=h2.own hl;exact⟨g,off,cs,e1,hm.blk _ _ e2 (fun hi=>hT _ hi e3),e3⟩
theorem BodyAt.mono{S T:List Nat}{w:World}{bb:Nat}{L:List w17}(h:BodyAt T w bb L)(hT:∀k∈T,k∈S):BodyAt S w bb L:=by
 obtain⟨A,c,n,hn,sent,h1,h2⟩:=h.blk;exact⟨hT _ h.in_,A,c,n,hn,sent,h1,h2.sp,fun hl=>by obtain⟨g,off,cs,e1,e2,e3⟩:=h2.own hl;exact⟨g,off,cs,e1,e2,hT _ e3⟩⟩
theorem BodyAt.small{S:List Nat}{w:World}{bb b:Nat}{L:List w17}{cs:Array Value}{f:Nat×Nat}(h:BodyAt S w bb L)(h0:L≠[])(hb:w.heap[b]?=some (.cells cs 145 f)):∃T,BodyAt T w bb L∧(∀k∈T,k∈S)∧b∉T:=by
 obtain⟨A,c,n,hn,sent,h1,h2⟩:=h.blk;obtain⟨g,off,cs',e1,e2,e3⟩:=h2.own (List.length_pos_iff.2 h0);refine⟨[bb,g],⟨by simp,A,c,n,hn,sent,h1,h2.sp,fun _=>⟨g,off,cs',e1,e2,by simp⟩⟩,?_,?_⟩;·
  intro k hk;simp only[List.mem_cons,List.not_mem_nil,or_false]at hk;rcases hk with rfl|rfl;·exact h.in_
  ·exact e3
 ·have h3:=k36 h1 hb (by decide);have h4:=k36 e2 hb (by decide);simp[Ne.symm h3,Ne.symm h4]
end Go.Proofs.YtkkomffmnafjkaaGreatDoor
