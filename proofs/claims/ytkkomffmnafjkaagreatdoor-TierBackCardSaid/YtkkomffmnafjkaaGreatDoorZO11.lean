/- Contract of session's copied. Printed by gen_o11.py. Sessions: how they lie, .. -/
import Derived.Test.YtkkomffmnafjkaaGreatDoorZI20
import Derived.Test.YtkkomffmnafjkaaGreatDoorZI5
import Derived.Test.YtkkomffmnafjkaaGreatDoorZS9
import Derived.Test.YtkkomffmnafjkaaGreatDoorZW3
import Derived.Test.YtkkomffmnafjkaaGreatDoorZQ1
import Derived.Test.YtkkomffmnafjkaaGreatDoorZB10
import Derived.Test.YtkkomffmnafjkaaGreatDoorZD1
import Derived.IntWalk
import Derived.Test.YtkkomffmnafjkaaGreatDoorZM1
import Derived.Deep.RegionHeld3
import Derived.Test.YtkkomffmnafjkaaGreatDoorZB8
set_option maxHeartbeats 16000000
set_option maxRecDepth 100000
set_option linter.all false
namespace Go.Proofs.YtkkomffmnafjkaaGreatDoor
open Go.RowKit
structure ReqC where
 hd:Bool
 ob:List UInt8
 L:List (Int×Int)
 k:CondL
structure ReqAt(r:ReqC)(w:World)(A:Option Addr)(c:Nat)(A1:Option Addr)(c1:Nat)(A2:Option Addr)(c2:Nat):Prop where
 sp:Sp w A c r.L
 m:SpG q27 2 w A1 c1 r.k.M
 n:SpG q27 2 w A2 c2 r.k.N
theorem ReqAt.below{r:ReqC}{w w':World}{A:Option Addr}{c:Nat}{A1:Option Addr}{c1:Nat}{A2:Option Addr}{c2:Nat}(h:ReqAt r w A c A1 c1 A2 c2)(hb:Below w.heap.size w w'):ReqAt r w' A c A1 c1 A2 c2:=⟨h.sp.below hb,h.m.below hb,h.n.below hb⟩
structure ReqCp(r:ReqC)(w:World)(A:Option Addr)(c:Nat)(A1:Option Addr)(c1:Nat)(A2:Option Addr)(c2:Nat):Prop where
 at_:ReqAt r w A c A1 c1 A2 c2
 t:0<r.L.length→∀a,A=some a→∃cs f,w.heap[a.block]?=some (.cells cs 81 f)
 t1:0<r.k.M.length→∀a,A1=some a→∃cs f,w.heap[a.block]?=some (.cells cs 25 f)
 t2:0<r.k.N.length→∀a,A2=some a→∃cs f,w.heap[a.block]?=some (.cells cs 25 f)
theorem ReqCp.below{r:ReqC}{w w':World}{A:Option Addr}{c:Nat}{A1:Option Addr}{c1:Nat}{A2:Option Addr}{c2:Nat}(h:ReqCp r w A c A1 c1 A2 c2)(hb:Below w.heap.size w w'):ReqCp r w' A c A1 c1 A2 c2:=⟨h.at_.below hb,fun h0 a ha=>(h.t h0 a ha).imp fun _ h1=>h1.imp fun _ h2=>j3 hb h2,fun h0 a ha=>(h.t1 h0 a ha).imp fun _ h1=>h1.imp fun _ h2=>j3 hb h2,fun h0 a ha=>(h.t2 h0 a ha).imp fun _ h1=>h1.imp fun _ h2=>j3 hb h2⟩
theorem q40{w w':World}{b:Nat}{cs:Array Value}{T:TypeId}(h:Stored w b cs T w'):w.grownBy w' (some b):=by
 have h1:=h.bel {w with heap:=#[]} ⟨rfl,rfl,rfl,Nat.zero_le _,fun k hk=>absurd hk (Nat.not_lt_zero k)⟩ (Nat.zero_le _);refine⟨h1.os,h1.tape,h1.output,?_,fun k _ hne=>h.ne k fun e=>hne (by rw[e])⟩;rcases Nat.lt_or_ge w'.heap.size w.heap.size with hlt|hge;·
  exfalso;by_cases e:w'.heap.size=b;·have:=q14 h.blk;omega
  ·have h2:=h.ne _ e;rw[Array.getElem?_eq_none (Nat.le_refl _),Array.getElem?_eq_getElem hlt]at h2;cases h2
 ·exact hge
structure SesL where
 st:Int
 a1:Int
 a2:Int
 a3:Int
 en:Int
 lf:List w17
 ag:Int
 told:Bool
 cut:Bool
def sesC(r:ReqC)(A:Option Addr)(c:Nat)(A1:Option Addr)(c1:Nat)(A2:Option Addr)(c2:Nat)(g:CfgL)(s:SesL)(en:Int)(bd:Value):Array Value:=#[.bool r.hd,.string ⟨r.ob.toArray⟩,.slice A r.L.length c,.slice A1 r.k.M.length c1,.slice A2 r.k.N.length c2,.bool r.k.am,.bool r.k.an,.int .i64 r.k.si,.int .i64 r.k.un,.string ⟨r.k.rt.toArray⟩,.bool r.k.rw,.int .i64 s.a1,.int .i64 s.a2,.int .i64 s.a3,.int .i64 g.j0,.int .i64 g.j1,.int .i64 g.j2,.int .i64 g.cs,.int .i64 g.j4,.int .i64 g.j5,.int .i64 g.j6,.int .i64 g.j7,.int .i64 g.j8,.int .i64 g.j9,.int .i64 s.st,.int .i64 en,bd,.int .i64 s.ag,.bool s.told,.bool s.cut]
def b2n(b:Bool):Int:=if b=true then 1 else 0
def sexC(r:ReqC)(A:Option Addr)(c:Nat)(A1:Option Addr)(c1:Nat)(A2:Option Addr)(c2:Nat)(g:CfgL)(s:SesL)(lv:Value):Array Value:=#[.bool r.hd,.string ⟨r.ob.toArray⟩,.slice A r.L.length c,.slice A1 r.k.M.length c1,.slice A2 r.k.N.length c2,.bool r.k.am,.bool r.k.an,.int .i64 r.k.si,.int .i64 r.k.un,.string ⟨r.k.rt.toArray⟩,.bool r.k.rw,.int .i64 s.a1,.int .i64 s.a2,.int .i64 s.a3,.int .i64 g.j0,.int .i64 g.j1,.int .i64 g.j2,.int .i64 g.cs,.int .i64 g.j4,.int .i64 g.j5,.int .i64 g.j6,.int .i64 g.j7,.int .i64 g.j8,.int .i64 g.j9,.int .i64 s.st,.int .i64 (b2n s.told),.int .i64 s.ag,.int .i64 (b2n s.cut),.int .i64 s.en,lv]
theorem SpG.mut{α:Type}{en:α→List Value}{n c:Nat}{A:Option Addr}{L:List α}{S:List Nat}{w w':World}(h:SpG en n w A c L)(ho:0<L.length→∀a,A=some a→a.block∉S)(hm:Mut S w w'):SpG en n w' A c L:=by refine⟨h.le,h.nil_,fun k hk=>?_⟩;obtain⟨b,off,e,hb,hc⟩:=h.at' k hk;have hn:=ho (by omega) _ e;have hw:w.heap[b]?=some w.heap[b]:=Array.getElem?_eq_getElem hb;have hw':=hm.blk b _ hw hn;refine⟨b,off,e,q14 hw',fun j v hj=>?_⟩;rw[World.cell?_of_block (w:=w) (w':=w') (a:=⟨b,off+k*n+j,none⟩) (by simp only;rw[hw',hw])];exact hc j v hj
theorem Sp.mut{c:Nat}{A:Option Addr}{L:List (Int×Int)}{S:List Nat}{w w':World}(h:Sp w A c L)(ho:0<L.length→∀a,A=some a→a.block∉S)(hm:Mut S w w'):Sp w' A c L:=by refine⟨h.le,h.nil_,fun hn=>?_⟩;obtain⟨b,off,e,hb,hc⟩:=h.at' hn;have hno:=ho hn _ e;have hw:w.heap[b]?=some w.heap[b]:=Array.getElem?_eq_getElem hb;have hw':=hm.blk b _ hw hno;refine⟨b,off,e,q14 hw',fun i x hx=>?_⟩;rw[World.cell?_of_block (w:=w) (w':=w') (a:=⟨b,off+i*2,none⟩) (by simp only;rw[hw',hw]),World.cell?_of_block (w:=w) (w':=w') (a:=⟨b,off+i*2+1,none⟩) (by simp only;rw[hw',hw])];exact hc i x hx
theorem SpG.old{α:Type}{en:α→List Value}{n c:Nat}{A:Option Addr}{L:List α}{w:World}(h:SpG en n w A c L)(hn:0<L.length){a:Addr}(ha:A=some a):a.block<w.heap.size:=by obtain⟨b,off,e,hb,_⟩:=h.at' 0 hn;rw[ha]at e;injection e with e;rw[e];exact hb
theorem Sp.old{c:Nat}{A:Option Addr}{L:List (Int×Int)}{w:World}(h:Sp w A c L)(hn:0<L.length){a:Addr}(ha:A=some a):a.block<w.heap.size:=by obtain⟨b,off,e,hb,_⟩:=h.at' hn;rw[ha]at e;injection e with e;rw[e];exact hb
structure ReqIn(S:List Nat)(r:ReqC)(w:World)(A:Option Addr)(c:Nat)(A1:Option Addr)(c1:Nat)(A2:Option Addr)(c2:Nat):Prop where
 at_:ReqAt r w A c A1 c1 A2 c2
 o:0<r.L.length→∀a,A=some a→a.block∉S
 o1:0<r.k.M.length→∀a,A1=some a→a.block∉S
 o2:0<r.k.N.length→∀a,A2=some a→a.block∉S
section
variable{S S':List Nat}{r:ReqC}{w w':World}{A:Option Addr}{c:Nat}{A1:Option Addr}{c1:Nat}{A2:Option Addr}{c2:Nat}
theorem ReqIn.mut(h:ReqIn S r w A c A1 c1 A2 c2)(hm:Mut S w w'):ReqIn S r w' A c A1 c1 A2 c2:=⟨⟨h.at_.sp.mut h.o hm,h.at_.m.mut h.o1 hm,h.at_.n.mut h.o2 hm⟩,h.o,h.o1,h.o2⟩
theorem ReqIn.grow(h:ReqIn S r w A c A1 c1 A2 c2)(hS:∀k∈S',k∈S∨w.heap.size≤k):ReqIn S' r w A c A1 c1 A2 c2:=⟨h.at_,fun hn a ha hin=>(hS _ hin).elim (h.o hn a ha) fun hk=>by have:=h.at_.sp.old hn ha;omega,fun hn a ha hin=>(hS _ hin).elim (h.o1 hn a ha) fun hk=>by have:=h.at_.m.old hn ha;omega,fun hn a ha hin=>(hS _ hin).elim (h.o2 hn a ha) fun hk=>by have:=h.at_.n.old hn ha;omega⟩
theorem ReqAt.fresh(h:ReqAt r w A c A1 c1 A2 c2)(hS:∀k∈S,w.heap.size≤k):ReqIn S r w A c A1 c1 A2 c2:=⟨h,fun hn a ha hin=>by have:=h.sp.old hn ha;have:=hS _ hin;omega,fun hn a ha hin=>by have:=h.m.old hn ha;have:=hS _ hin;omega,fun hn a ha hin=>by have:=h.n.old hn ha;have:=hS _ hin;omega⟩
theorem ReqIn.below(h:ReqIn S r w A c A1 c1 A2 c2)(hb:Below w.heap.size w w'):ReqIn S r w' A c A1 c1 A2 c2:=⟨h.at_.below hb,h.o,h.o1,h.o2⟩
end
theorem ReqIn.go{S S':List Nat}{r:ReqC}{w w':World}{A:Option Addr}{c:Nat}{A1:Option Addr}{c1:Nat}{A2:Option Addr}{c2:Nat}(h:ReqIn S r w A c A1 c1 A2 c2)(hm:Mut S w w')(hS:∀k∈S',k∈S∨w.heap.size≤k):ReqIn S' r w' A c A1 c1 A2 c2:=((h.grow (S':=S++S') (fun _ hk=>(List.mem_append.1 hk).elim .inl (hS _))).mut (hm.mono fun _ hk=>List.mem_append.2 (.inl hk))).grow fun _ hk=>.inl (List.mem_append.2 (.inr hk))
structure ReqOwn(S:List Nat)(r:ReqC)(w:World)(A:Option Addr)(c:Nat)(A1:Option Addr)(c1:Nat)(A2:Option Addr)(c2:Nat):Prop where
 in_:ReqIn S r w A c A1 c1 A2 c2
 cp:ReqCp r w A c A1 c1 A2 c2
theorem ReqCp.fresh{S:List Nat}{r:ReqC}{w:World}{A:Option Addr}{c:Nat}{A1:Option Addr}{c1:Nat}{A2:Option Addr}{c2:Nat}(h:ReqCp r w A c A1 c1 A2 c2)(hS:∀k∈S,w.heap.size≤k):ReqOwn S r w A c A1 c1 A2 c2:=⟨h.at_.fresh hS,h⟩
theorem ReqOwn.at_{S:List Nat}{r:ReqC}{w:World}{A:Option Addr}{c:Nat}{A1:Option Addr}{c1:Nat}{A2:Option Addr}{c2:Nat}(h:ReqOwn S r w A c A1 c1 A2 c2):ReqAt r w A c A1 c1 A2 c2:=h.in_.at_
theorem ReqOwn.mut{S:List Nat}{r:ReqC}{w w':World}{A:Option Addr}{c:Nat}{A1:Option Addr}{c1:Nat}{A2:Option Addr}{c2:Nat}(h:ReqOwn S r w A c A1 c1 A2 c2)(hm:Mut S w w'):ReqOwn S r w' A c A1 c1 A2 c2:=⟨h.in_.mut hm,(h.in_.mut hm).at_,fun h0 a ha=>(h.cp.t h0 a ha).imp fun _ h1=>h1.imp fun _ h2=>hm.blk _ _ h2 (h.in_.o h0 a ha),fun h0 a ha=>(h.cp.t1 h0 a ha).imp fun _ h1=>h1.imp fun _ h2=>hm.blk _ _ h2 (h.in_.o1 h0 a ha),fun h0 a ha=>(h.cp.t2 h0 a ha).imp fun _ h1=>h1.imp fun _ h2=>hm.blk _ _ h2 (h.in_.o2 h0 a ha)⟩
theorem ReqOwn.below{S:List Nat}{r:ReqC}{w w':World}{A:Option Addr}{c:Nat}{A1:Option Addr}{c1:Nat}{A2:Option Addr}{c2:Nat}(h:ReqOwn S r w A c A1 c1 A2 c2)(hb:Below w.heap.size w w'):ReqOwn S r w' A c A1 c1 A2 c2:=⟨h.in_.below hb,h.cp.below hb⟩
theorem ReqOwn.grow{S S':List Nat}{r:ReqC}{w:World}{A:Option Addr}{c:Nat}{A1:Option Addr}{c1:Nat}{A2:Option Addr}{c2:Nat}(h:ReqOwn S r w A c A1 c1 A2 c2)(hS:∀k∈S',k∈S∨w.heap.size≤k):ReqOwn S' r w A c A1 c1 A2 c2:=⟨h.in_.grow hS,h.cp⟩
theorem ReqOwn.go{S S':List Nat}{r:ReqC}{w w':World}{A:Option Addr}{c:Nat}{A1:Option Addr}{c1:Nat}{A2:Option Addr}{c2:Nat}(h:ReqOwn S r w A c A1 c1 A2 c2)(hm:Mut S w w')(hS:∀k∈S',k∈S∨w.heap.size≤k):ReqOwn S' r w' A c A1 c1 A2 c2:=⟨h.in_.go hm hS,(h.mut hm).cp⟩
structure PRow(S:List Nat)(w:World)(A:Option Addr)(c:Nat)(L:List w17):Prop where
 sp:SpG j18 3 w A c L
 own:0<L.length→∃g off cs,A=some ⟨g,off,none⟩∧w.heap[g]?=some (.cells cs 89 (0,0))∧g∈S
structure BodyAt(S:List Nat)(w:World)(bb:Nat)(L:List w17):Prop where
 in_:bb∈S
 blk:∃A c n,n=L.length∧∃sent,w.heap[bb]?=some (.cells #[.slice A n c,.int .i64 sent] 207 (0,0))∧PRow S w A c L
structure SesAt(r:ReqC)(g:CfgL)(S:List Nat)(w:World)(b:Nat)(s:SesL):Prop where
 in_:b∈S
 lt:∀k∈S,k<w.heap.size
 blk:∃A c A1 c1 A2 c2 en bd,w.heap[b]?=some (.cells (sesC r A c A1 c1 A2 c2 g s en bd) 145 (0,0))∧ReqOwn S r w A c A1 c1 A2 c2∧(s.st=2→en=s.en∧s.lf≠[]∧j29 s.lf∧∃bb,bd=.pointer (some ⟨bb,0,none⟩)∧BodyAt S w bb s.lf)∧(s.st≠2→bd=.pointer none∧s.en=0)
structure SexAt(r:ReqC)(g:CfgL)(S:List Nat)(w:World)(b:Nat)(s:SesL):Prop where
 in_:b∈S
 lt:∀k∈S,k<w.heap.size
 ok:s.st≠2→s.en=0
 blk:∃A c A1 c1 A2 c2 B d n,w.heap[b]?=some (.cells (sexC r A c A1 c1 A2 c2 g s (.slice B n d)) 109 (0,0))∧ReqIn S r w A c A1 c1 A2 c2∧(s.st=2→n=s.lf.length∧s.lf≠[]∧SpG j18 3 w B d s.lf∧(0<s.lf.length→∀a,B=some a→a.block∉S))
structure ShortR(r:ReqC):Prop where
 ob:r.ob.length≤1000000
 l:r.L.length≤1000
 k:ShortC r.k
structure FewR(r:ReqC):Prop where
 ob:r.ob.length≤300
 l:r.L.length≤70
 k:FewC r.k
theorem FewR.short{r:ReqC}(h:FewR r):ShortR r:=⟨by have:=h.ob;omega,by have:=h.l;omega,h.k.short⟩
def SesL.cutS(s:SesL):SesL:=if s.st=3 then s else{s with st:=3,en:=0,cut:=true}
def SesL.failS(s:SesL):SesL:={s with st:=3}
def k35(r:ReqC)(g:CfgL)(S:List Nat)(b:Nat)(s':SesL)(w w':World):Prop:=∃S',SesAt r g S' w' b s'∧(∀k∈S',k∈S∨w.heap.size≤k)∧(∀k∈S,k∈S')∧Mut S w w'
def newS(g:CfgL)(a1 a2 a3:Int):SesL:=⟨1,a1,a2,a3,0,[],g.j4,false,false⟩
theorem SesAt.alloc{r:ReqC}{g:CfgL}{S:List Nat}{w:World}{b:Nat}{s:SesL}(h:SesAt r g S w b s){w':World}(hb:Below w.heap.size w w'):SesAt r g S w' b s:=by obtain⟨A,c,A1,c1,A2,c2,en,bd,hk,hrq,hT,hN⟩:=h.blk;refine⟨h.in_,fun k hk=>Nat.lt_of_lt_of_le (h.lt k hk) hb.size,A,c,A1,c1,A2,c2,en,bd,j3 hb hk,hrq.below hb,fun hst=>?_,hN⟩;obtain⟨h1,h2,h3,bb,h4,h5,B,d,n,h6,sent,h7,h8⟩:=hT hst;refine⟨h1,h2,h3,bb,h4,h5,B,d,n,h6,sent,j3 hb h7,h8.sp.below hb,fun hl=>?_⟩;obtain⟨gg,off,cs,e1,e2,e3⟩:=h8.own hl;exact⟨gg,off,cs,e1,j3 hb e2,e3⟩
theorem SexAt.alloc{r:ReqC}{g:CfgL}{S:List Nat}{w:World}{b:Nat}{s:SesL}(h:SexAt r g S w b s){w':World}(hb:Below w.heap.size w w'):SexAt r g S w' b s:=by obtain⟨A,c,A1,c1,A2,c2,B,d,n,hk,hrq,hT⟩:=h.blk;exact⟨h.in_,fun k hk=>Nat.lt_of_lt_of_le (h.lt k hk) hb.size,h.ok,A,c,A1,c1,A2,c2,B,d,n,j3 hb hk,hrq.below hb,fun hst=>⟨(hT hst).1,(hT hst).2.1,(hT hst).2.2.1.below hb,(hT hst).2.2.2⟩⟩
theorem SexAt.mut{r:ReqC}{g:CfgL}{S D D':List Nat}{w:World}{b:Nat}{s:SesL}(h:SexAt r g D w b s){w':World}(hm:Mut S w w')(hS:∀k∈S,k∈D)(hb:b∉S)(hin:b∈D')(hlt:∀k∈D',k<w'.heap.size)(hD:∀k∈D',k∈D∨w.heap.size≤k):SexAt r g D' w' b s:=by
 obtain⟨A,c,A1,c1,A2,c2,B,d,n,hk,hrq,hT⟩:=h.blk;refine⟨hin,hlt,h.ok,A,c,A1,c1,A2,c2,B,d,n,hm.blk _ _ hk hb,hrq.go (hm.mono hS) hD,fun hst=>?_⟩;obtain⟨h1,h2,h3,h4⟩:=hT hst;refine⟨h1,h2,h3.mut (fun h0 a ha hi=>h4 h0 a ha (hS _ hi)) hm,fun h0 a ha hi=>?_⟩;rcases hD _ hi with h5|h5;·exact h4 h0 a ha h5
 ·have:=h3.old h0 ha;omega
def q33:Array Value:=#[.int .i64 0,.slice none 0 0,.slice none 0 0,.int .i64 0]
def GA(r:ReqL)(m:MetaL)(o cs seed:Int)(v:Value)(w:World):Prop:=∃a A c B d,AnsP r m o cs seed a∧v=.agg #[.int .i64 a.st,.slice A a.fs.length c,.slice B a.ps.length d,.int .i64 a.sz]∧SpT 176 w18 2 w A c a.fs∧SpT 89 j18 3 w B d a.ps
theorem GA.mono{r:ReqL}{m:MetaL}{o cs seed:Int}(v:Value)(w w':World)(h:GA r m o cs seed v w)(hb:Below w.heap.size w w'):GA r m o cs seed v w':=by obtain⟨a,A,c,B,d,h1,h2,h3,h4⟩:=h;exact⟨a,A,c,B,d,h1,h2,h3.below hb,h4.below hb⟩
def FG(gs:List (Value→World→Prop))(base:Nat)(T:TypeId)(Z:Array Value)(j:Nat)(v:Value)(w:World):Prop:=match gs[j]? with|some g=>g v w|none=>∃b,base≤b∧v=.pointer (some ⟨b,0,none⟩)∧w.heap[b]?=some (.cells Z T (0,0))
theorem FG.mono{gs:List (Value→World→Prop)}{base:Nat}{T:TypeId}{Z:Array Value}(hg:∀g∈gs,∀v w w',g v w→Below w.heap.size w w'→g v w')(j:Nat)(v:Value)(w w':World)(h:FG gs base T Z j v w)(hb:Below w.heap.size w w'):FG gs base T Z j v w':=by
 unfold FG at*;cases hj:gs[j]? with
  |some g=>rw[hj]at h;exact hg g (List.mem_of_getElem? hj) _ _ _ h hb
  |none=>rw[hj]at h;obtain⟨b,h1,h2,h3⟩:=h;exact⟨b,h1,h2,j3 hb h3⟩
theorem FG.lt{gs:List (Value→World→Prop)}{base:Nat}{T:TypeId}{Z:Array Value}(k:Nat)(v:Value)(w:World)(hk:decide (gs.length≤k)=true)(h:FG gs base T Z k v w):∃b,v=.pointer (some ⟨b,0,none⟩)∧b<w.heap.size:=by unfold FG at h;rw[List.getElem?_eq_none_iff.2 (of_decide_eq_true hk)]at h;obtain⟨b,_,h2,h3⟩:=h;exact⟨b,h2,q14 h3⟩
theorem FG.new{gs:List (Value→World→Prop)}{base:Nat}{T:TypeId}{Z:Array Value}{j:Nat}{w:World}(hj:gs[j]?=none)(hb:base≤w.heap.size):FG gs base T Z j (.pointer (some ⟨w.heap.size,0,none⟩)) (w.alloc (.cells Z T)):=by unfold FG;rw[hj];exact⟨_,hb,rfl,j17 rfl⟩
section
variable{Q:Exit→Act→World→Prop}
end
theorem BodyAt.below{S:List Nat}{w w':World}{bb:Nat}{L:List w17}(h:BodyAt S w bb L)(hb:Below w.heap.size w w'):BodyAt S w' bb L:=by obtain⟨A,c,n,hn,sent,h1,h2⟩:=h.blk;refine⟨h.in_,A,c,n,hn,sent,j3 hb h1,h2.sp.below hb,fun hl=>?_⟩;obtain⟨g,off,cs,e1,e2,e3⟩:=h2.own hl;exact⟨g,off,cs,e1,j3 hb e2,e3⟩
end Go.Proofs.YtkkomffmnafjkaaGreatDoor
